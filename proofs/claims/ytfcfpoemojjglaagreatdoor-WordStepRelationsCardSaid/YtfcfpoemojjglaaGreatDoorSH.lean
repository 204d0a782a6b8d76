/-
  Part SH of a proof.
-/
import Derived.Test.YtfcfpoemojjglaaGreatDoorPA
import Derived.Test.YtfcfpoemojjglaaGreatDoorSF
import Derived.Test.YtfcfpoemojjglaaGreatDoorSG
import Derived.Test.YtfcfpoemojjglaaGreatDoorCE
set_option maxHeartbeats 16000000
set_option maxRecDepth 100000
set_option linter.unusedVariables false
set_option linter.unusedSimpArgs false
namespace Go.Proofs.YtfcfpoemojjglaaGreatDoor
open Go.RowKit
open K (Ah)
attribute [-go_sem] loadCellsFrom
set_option maxHeartbeats 16000000
set_option maxRecDepth 100000
theorem Yc {w:World} {U rc:Array Value} {A:Option Addr} {L c:Nat} {fr t at_:Int} {left right:List Int} (bl:U.size=10) (bk:U[2]?=some (.slice A L c)) (hL:L≤60) (hr:MR w rc fr t left right) (b6:rc[13]?=some (.int .i64 at_)):
    Calls Tryz.prog 105 #[.agg U,.agg rc] w (Ret fun v w'=>∃gd gm n,v=.pointer (some ⟨gd,0,none⟩)∧n≤10000∧DrS w w' gd gm (Ww L at_ fr t left right) n [] []):=by
  obtain⟨w1,ci,aL,aW,-⟩:=Ae w U 27
  obtain⟨w2,cj,a5,ab,-⟩:=Ae w1 rc 99
  have b7:=aL.trans (a5.mono aL.size)
  have aF:=aW.below a5
  have bV:=Ah aF bl
  have a3:=hide hr
  have ah:=hide b6
  clear b6
  have bp:=hide (WR (w0:=w) (ls:=[(w.heap.size,27,U),(w1.heap.size,99,rc)]) b7 bk hL (fun x hx=>by
    simp only [List.mem_cons,List.not_mem_nil,or_false] at hx
    rcases hx with rfl | rfl
    · exact aF
    · exact ab))
  obtain⟨A6,c6,aM,aJ⟩:=hr.left
  obtain⟨A7,c7,aN,aK⟩:=hr.right
  obtain⟨ml,aw⟩:∃m,m=left.length:=⟨_,rfl⟩
  obtain⟨Z,ay⟩:∃m,m=right.length:=⟨_,rfl⟩
  rw [←aw] at aM
  rw [←ay] at aN
  have b9:=hide aM
  have av:=hide aN
  have be:=hide aw
  have bX:=hide ay
  have cd:=hide aJ
  have ce:=hide aK
  have cg:ml≤9223372036854775807∧Z≤9223372036854775807:=⟨by rw [aw]; exact aJ.1,by rw [ay]; exact aK.1⟩
  clear aL a5 aW ab b7 aF bk bl hr aM aN aJ aK aw ay
  go_enter Tryz.func105,Tryz.ntmps105
  go_wp2_with fail
  refine Calls.ret bp.out ?_
  rintro v w3 ⟨gd,gm,rfl,hM,bE⟩
  have hD:=(show DrS w w3 gd gm ⟨L,[],[],[],[]⟩ 0 _ [] from⟨_,_,_,hM,fun p M=>by cases M⟩)
  obtain⟨w4,bY,aG,bb⟩:=hD.pushE 161 #[.pointer (some ⟨gd,0,none⟩)]
  obtain⟨g5,bc⟩:=Wx bb
  rw [bc] at aG
  clear hM bp bV bE hD bb
  go_wp2_with fail
  clear bY bc
  refine Ye aG.out List.mem_cons_self (by omega) ?_ ?_
  · repeat (first | refine Reg.NoQ.then ?_ | refine Reg.NoQ.inBlock ?_ | exact Reg.NoQ.body (fun _ _ h=>h) (fun _ h=>h))
  iterate 6 (intro _)
  intro w5 g7 e1 J ad
  have G:=(ad.blk (g:=g5) (t:=161) (cs:=#[.pointer (some ⟨gd,0,none⟩)]) (by simp)).cell
  obtain⟨⟨bB,ak,bn⟩,al⟩:=ad.begin (a:=(0,0,0)) (e:=e1) (by simp only [Drw.add_st]) (by simp)
  obtain⟨w6,br,b8,-,-⟩:=Ae w5 #[.int .i64 (e1:Int)] 3
  rw [br] at ak al
  have bD:=hide al
  have ba:=ak.cell
  have bR:=ak.frozen 2
  have bT:=ak.lt
  obtain⟨u6,bq⟩:∃u,bB[2]?=some u:=⟨_,Array.getElem?_eq_getElem bn⟩
  have bJ:=(ba 2).trans bq
  have bH:=((ad.keep b8).blk (g:=g5) (t:=161) (cs:=#[.pointer (some ⟨gd,0,none⟩)]) (by simp)).cell
  have bI:=(al.blk (g:=g5) (t:=161) (cs:=#[.pointer (some ⟨gd,0,none⟩)]) (by simp)).cell
  have bK:=(al.blk (g:=g7) (t:=3) (cs:=#[.int .i64 (J:Int)]) (by simp)).cell
  clear aG ad ak ba bq bn al b8
  go_wp2_with fail
  refine Calls.ret (bD.out.free (L:=L) (s:=(5,0,0)) (es:=J) (by simp only [Drw.beg_L,Drw.add_L]) hL (by simp) (by omega)) ?_
  rintro v wX ⟨rfl,b0⟩
  have C:Hid (DrS w wX gd gm (dr0 L) 200 [(g7,3,#[.int .i64 (J:Int)]),(g5,161,#[.pointer (some ⟨gd,0,none⟩)]),(w.heap.size,27,U),(w1.heap.size,99,rc)] [((5,0,0),J),((0,0,0),e1)]):=hide (b0.big (by omega))
  have I:Hid ((dr0 L).L=L):=hide (by unfold dr0; simp only [Drw.free_L,Drw.beg_L,Drw.add_L])
  clear G bH bI bK bR bT bJ b0 br
  have bM:(Wm 0∧at_=2∧Z=0)∨(Wm 1∧at_=2∧Z≠0)∨(Wm 2∧at_≠2∧Z≠0)∨(Wm 3∧at_≠2∧Z=0):=by
    by_cases h1:at_=2 <;> by_cases h2:Z=0
    · exact .inl ⟨.mk 0,h1,h2⟩
    · exact .inr (.inl ⟨.mk 1,h1,h2⟩)
    · exact .inr (.inr (.inr ⟨.mk 3,h1,h2⟩))
    · exact .inr (.inr (.inl ⟨.mk 2,h1,h2⟩))
  have bN:(WC 0∧ml=0)∨(WC 1∧ml≠0):=by
    by_cases h1:ml=0
    · exact .inl ⟨.mk 0,h1⟩
    · exact .inr ⟨.mk 1,h1⟩
  rcases bM with⟨hk,aa,ap⟩ | ⟨hk,aa,ap⟩ | ⟨hk,aa,ap⟩ | ⟨hk,aa,ap⟩
  all_goals
    have a6:=hide (And.intro aa ap)
    have a5:Hid (G4 L at_ right=if at_=2 then (if Z=0 then ((dr0 L).add (6,0,0)).acc (6,0,0) else (dr0 L).add (6,0,0),(6,0,0)) else if 0<Z then (((dr0 L).add (2,0,0)).kp (2,0,0) (HH right),(2,0,0)) else (dr0 L,(5,0,0))):=by show _=_; rw [bX.out]; rfl
    first
      | (have aO:Wm 0:=hk
         have aE:(at_==2)=true:=by simp [aa]
         have aQ:((Z:Int)==0)=true:=by simp [ap]
         have G:=(C.out.blk (g:=g5) (t:=161) (cs:=#[.pointer (some ⟨gd,0,none⟩)]) (by simp)).cell
         have ai:=(C.out.blk (g:=g7) (t:=3) (cs:=#[.int .i64 (J:Int)]) (by simp)).cell
         have a7:=((C.out.blk (g:=w1.heap.size) (t:=99) (cs:=rc) (by simp)).cell 13).trans ah.out
         go_wp2_with fail
         refine Calls.ret (C.out.state (6,0,0) (m:=1) (.inl ⟨rfl,rfl,rfl⟩) (by omega) rfl) ?_
         rintro v w8 ⟨eb,rfl,y⟩
         have V:=hide y
         clear y
         clear G ai a7
         have G:=(V.out.blk (g:=g5) (t:=161) (cs:=#[.pointer (some ⟨gd,0,none⟩)]) (by simp)).cell
         have aB:=((V.out.blk (g:=w1.heap.size) (t:=99) (cs:=rc) (by simp)).cell 15).trans av.out
         go_wp2_with fail
         have ao:=V.out.keep (Ap w8)
         have bP:=(ao.blk (show(g5,161,#[.pointer (some ⟨gd,0,none⟩)])∈[(g7,3,#[.int .i64 (J:Int)]),(g5,161,#[.pointer (some ⟨gd,0,none⟩)]),(w.heap.size,27,U),(w1.heap.size,99,rc)] by simp)).cell
         obtain⟨AA,mA,cA,⟨co,cm,aX⟩,ch,ys,bi,bg⟩:=ao.app (a:=(6,0,0)) (e:=eb) (by simp) (by omega)
         have bL:=aX.cell
         have bo:=ao.below.size
         have q5:=(((ao.push 3 #[.int .i64 (eb:Int)]).blk (List.mem_cons_of_mem _ (show(g5,161,#[.pointer (some ⟨gd,0,none⟩)])∈[(g7,3,#[.int .i64 (J:Int)]),(g5,161,#[.pointer (some ⟨gd,0,none⟩)]),(w.heap.size,27,U),(w1.heap.size,99,rc)] by simp))).cell 0)
         have bh:=hide bg
         clear ao bg aX
         go_wp2_with fail
         refine Reg.cC [0,0,2,6,14,30,0,64,254,511,1023,2047,4095] [0,1,2,3,4,5,6,7,8,9,10,11,12] ?_ (by kernel_rfl) (by repeat (first | refine Reg.NoQ.then ?_ | refine Reg.NoQ.inBlock ?_ | exact Reg.NoQ.body (fun _ _ h=>h) (fun _ h=>h)))
         refine Reg.rest_walk' [0,1,2,3,4,5,6,7] [8,9,10,11,12] rfl (by kernel_rfl) ?_
         intro Qf E
         go_wp2_with fail
         first | refine E _ _ ?_ | skip
         try clear E
         refine Reg.rest_act' 8 [9,10,11,12] [0] rfl (by kernel_rfl) ?_
         intro Qf E
         try simp only [gT,gS,gZ]
         refine BP (w:=w8.drew) C9 rfl _ _ rfl w.heap.size (.slice AA mA cA) mA _ rfl bi [.int .i64 (eb:Int)] 1 rfl rfl (by simp [Value.oneCell']) (by omega) bo ?_
         intro g aV w9 bj hk bf hg
         obtain⟨⟨cp,cn,ab⟩,bd,ad⟩:=bh.out g aV w9 bj hk bf
         have p5:=(bd _ (show(g5,161,#[.pointer (some ⟨gd,0,none⟩)])∈[(g7,3,#[.int .i64 (J:Int)]),(g5,161,#[.pointer (some ⟨gd,0,none⟩)]),(w.heap.size,27,U),(w1.heap.size,99,rc)] by simp)).cell 0
         have ag:=hide ad
         have bG:=ab.cell
         have bQ:=ab.frozen 3
         have bS:=ab.lt
         clear bj hk bf ab bd ad bi
         first | refine E _ _ ⟨?_,?_⟩ | refine⟨?_,?_⟩
         · intro z hz q O
           simp only [List.mem_cons,List.not_mem_nil,or_false] at hz
           subst hz
           injection O with O
           subst O
           exact Reg.same_load1 rfl rfl (q5) (p5) Tryz.underlying161 rfl
         try clear E
         refine Reg.rest_walk' [9,10,11] [12] rfl (by kernel_rfl) ?_
         intro Qf E
         go_wp2_with fail
         first | refine E _ _ ?_ | skip
         try clear E
         refine Reg.rest_act' 12 [] [] rfl (by kernel_rfl) ?_
         intro Qf E
         try simp only [gT,gS,gZ]
         go_wp2_with fail
         first | refine E _ _ ⟨Reg.nm,?_⟩ | refine⟨Reg.nm,?_⟩
         try clear E
         first | refine Reg.rest_end ?_ | skip
         clear bP bL bo bh bG bQ bS
         obtain⟨wX,bZ⟩:∃wY,w9.setCell ⟨gd,3,none⟩ (.slice (some ⟨g,0,none⟩) (mA+1) aV)=wY:=⟨_,rfl⟩
         rw [bZ] at ag
         have a2:Hid (G4 L at_ right=(((dr0 L).add (6,0,0)).acc (6,0,0),(6,0,0))):=by
           show _=_
           rw [a5.out]
           rw [if_pos a6.out.1,if_pos a6.out.2]
         have W:Hid (DrS w wX gd gm (G4 L at_ right).1 400 [(g7,3,#[.int .i64 (J:Int)]),(g5,161,#[.pointer (some ⟨gd,0,none⟩)]),(w.heap.size,27,U),(w1.heap.size,99,rc)] [((G4 L at_ right).2,eb),((0,0,0),e1)]):=by
           show DrS _ _ _ _ _ _ _ _
           rw [a2.out]
           exact(DrS.big ag.out (by omega)).sub (fun _ h=>h) (fun p M=>by simp at M ⊢; rcases M with rfl | rfl <;> simp)
         have ae:Hid ((G4 L at_ right).1.L=L):=by
           show _=_
           rw [a2.out]
           first | exact I.out | (rw [Drw.acc_L,Drw.add_L]; exact I.out) | (rw [Drw.add_L]; exact I.out) | (rw [Drw.kp_L,Drw.add_L]; exact I.out)
         clear C V ag)
      | (have aO:Wm 1:=hk
         have aE:(at_==2)=true:=by simp [aa]
         have aQ:((Z:Int)==0)=false:=by simp; omega
         have G:=(C.out.blk (g:=g5) (t:=161) (cs:=#[.pointer (some ⟨gd,0,none⟩)]) (by simp)).cell
         have ai:=(C.out.blk (g:=g7) (t:=3) (cs:=#[.int .i64 (J:Int)]) (by simp)).cell
         have a7:=((C.out.blk (g:=w1.heap.size) (t:=99) (cs:=rc) (by simp)).cell 13).trans ah.out
         go_wp2_with fail
         refine Calls.ret (C.out.state (6,0,0) (m:=1) (.inl ⟨rfl,rfl,rfl⟩) (by omega) rfl) ?_
         rintro v wX ⟨eb,rfl,y⟩
         have V:=hide y
         clear y
         clear G ai a7
         have aB:=((V.out.blk (g:=w1.heap.size) (t:=99) (cs:=rc) (by simp)).cell 15).trans av.out
         have a2:Hid (G4 L at_ right=((dr0 L).add (6,0,0),(6,0,0))):=by
           show _=_
           rw [a5.out]
           rw [if_pos a6.out.1,if_neg a6.out.2]
         have W:Hid (DrS w wX gd gm (G4 L at_ right).1 400 [(g7,3,#[.int .i64 (J:Int)]),(g5,161,#[.pointer (some ⟨gd,0,none⟩)]),(w.heap.size,27,U),(w1.heap.size,99,rc)] [((G4 L at_ right).2,eb),((0,0,0),e1)]):=by
           show DrS _ _ _ _ _ _ _ _
           rw [a2.out]
           exact(DrS.big V.out (by omega)).sub (fun _ h=>h) (fun p M=>by simp at M ⊢; rcases M with rfl | rfl <;> simp)
         have ae:Hid ((G4 L at_ right).1.L=L):=by
           show _=_
           rw [a2.out]
           first | exact I.out | (rw [Drw.acc_L,Drw.add_L]; exact I.out) | (rw [Drw.add_L]; exact I.out) | (rw [Drw.kp_L,Drw.add_L]; exact I.out)
         clear C V)
      | (have aO:Wm 2:=hk
         have aE:(at_==2)=false:=by simp [aa]
         have aQ:(0:Int)<(Z:Int):=by omega
         have G:=(C.out.blk (g:=g5) (t:=161) (cs:=#[.pointer (some ⟨gd,0,none⟩)]) (by simp)).cell
         have ai:=(C.out.blk (g:=g7) (t:=3) (cs:=#[.int .i64 (J:Int)]) (by simp)).cell
         have a7:=((C.out.blk (g:=w1.heap.size) (t:=99) (cs:=rc) (by simp)).cell 13).trans ah.out
         have aB:=((C.out.blk (g:=w1.heap.size) (t:=99) (cs:=rc) (by simp)).cell 15).trans av.out
         go_wp2_with fail
         refine Calls.ret (C.out.state (2,0,0) (m:=1) (.inl ⟨rfl,rfl,rfl⟩) (by omega) rfl) ?_
         rintro v w8 ⟨eb,rfl,y⟩
         have V:=hide y
         clear y
         clear G ai a7 aB
         have G:=(V.out.blk (g:=g5) (t:=161) (cs:=#[.pointer (some ⟨gd,0,none⟩)]) (by simp)).cell
         have bO:Hid (((dr0 L).add (2,0,0)).L=L):=hide (by rw [Drw.add_L]; exact I.out)
         go_wp2_with fail
         refine Calls.ret (V.out.keep_ (L:=L) (F:=156) (caps:=[.pointer (some ⟨w1.heap.size,0,none⟩),.pointer (some ⟨g7,0,none⟩)]) (κ:=HH right) (f:=(2,0,0)) (ef:=eb) (S0:=[((5,0,0),J)]) bO.out hL (by simp) (by simp) (fun _ _=>Xo a3.out (by simp) (by simp)) (.inr (.inl ⟨_,_,rfl,by simp⟩)) (by omega)) ?_
         rintro v wX ⟨rfl,y⟩
         have ag:=hide y
         clear y G
         have a2:Hid (G4 L at_ right=(((dr0 L).add (2,0,0)).kp (2,0,0) (HH right),(2,0,0))):=by
           show _=_
           rw [a5.out]
           rw [if_neg a6.out.1,if_pos (by have:=a6.out.2; omega)]
         have W:Hid (DrS w wX gd gm (G4 L at_ right).1 400 [(g7,3,#[.int .i64 (J:Int)]),(g5,161,#[.pointer (some ⟨gd,0,none⟩)]),(w.heap.size,27,U),(w1.heap.size,99,rc)] [((G4 L at_ right).2,eb),((0,0,0),e1)]):=by
           show DrS _ _ _ _ _ _ _ _
           rw [a2.out]
           exact(DrS.big ag.out (by omega)).sub (fun _ h=>h) (fun p M=>by simp at M ⊢; rcases M with rfl | rfl <;> simp)
         have ae:Hid ((G4 L at_ right).1.L=L):=by
           show _=_
           rw [a2.out]
           first | exact I.out | (rw [Drw.acc_L,Drw.add_L]; exact I.out) | (rw [Drw.add_L]; exact I.out) | (rw [Drw.kp_L,Drw.add_L]; exact I.out)
         clear C V ag)
      | (have aO:Wm 3:=hk
         have aE:(at_==2)=false:=by simp [aa]
         have aQ:¬(0:Int)<(Z:Int):=by omega
         have ai:=(C.out.blk (g:=g7) (t:=3) (cs:=#[.int .i64 (J:Int)]) (by simp)).cell
         have a7:=((C.out.blk (g:=w1.heap.size) (t:=99) (cs:=rc) (by simp)).cell 13).trans ah.out
         have aB:=((C.out.blk (g:=w1.heap.size) (t:=99) (cs:=rc) (by simp)).cell 15).trans av.out
         have a2:Hid (G4 L at_ right=(dr0 L,(5,0,0))):=by
           show _=_
           rw [a5.out]
           rw [if_neg a6.out.1,if_neg (by have:=a6.out.2; omega)]
         have W:Hid (DrS w wX gd gm (G4 L at_ right).1 400 [(g7,3,#[.int .i64 (J:Int)]),(g5,161,#[.pointer (some ⟨gd,0,none⟩)]),(w.heap.size,27,U),(w1.heap.size,99,rc)] [((G4 L at_ right).2,J),((0,0,0),e1)]):=by
           show DrS _ _ _ _ _ _ _ _
           rw [a2.out]
           exact(DrS.big C.out (by omega)).sub (fun _ h=>h) (fun p M=>by simp at M ⊢; rcases M with rfl | rfl <;> simp)
         have ae:Hid ((G4 L at_ right).1.L=L):=by
           show _=_
           rw [a2.out]
           first | exact I.out | (rw [Drw.acc_L,Drw.add_L]; exact I.out) | (rw [Drw.add_L]; exact I.out) | (rw [Drw.kp_L,Drw.add_L]; exact I.out)
         clear C)
    clear I a5
    rcases bN with⟨hm,ax⟩ | ⟨hm,ax⟩
    all_goals
      first
      | (have bW:WC 0:=hm
         have bU:((ml:Int)==0)=true:=by simp [ax]
         have G:=(W.out.blk (g:=g5) (t:=161) (cs:=#[.pointer (some ⟨gd,0,none⟩)]) (by simp)).cell
         have bm:=((W.out.blk (g:=w1.heap.size) (t:=99) (cs:=rc) (by simp)).cell 14).trans b9.out
         have aR:=((W.out.blk (g:=w1.heap.size) (t:=99) (cs:=rc) (by simp)).cell 2).trans a3.out.fr
         have aS:=((W.out.blk (g:=w1.heap.size) (t:=99) (cs:=rc) (by simp)).cell 3).trans a3.out.tt
         go_wp2_with fail
         refine Calls.ret (W.out.move (a:=(0,0,0)) (b:=(G4 L at_ right).2) (by simp) (by simp) (by omega)) ?_
         rintro v wX ⟨rfl,y⟩
         have af:Hid (Lb L at_ fr t left right=(G4 L at_ right).1.mov (0,0,0) fr t (G4 L at_ right).2):=by
           show _=_
           unfold Lb
           rw [if_pos (be.out.symm.trans ax)]
         have au:Hid ((Lb L at_ fr t left right).L=L):=by
           show _=_
           rw [af.out]
           exact ae.out
         rw [←af.out] at y
         have hZ:=hide y
         clear y W ae af G bm aR aS)
      | (have bW:WC 1:=hm
         have bU:((ml:Int)==0)=false:=by simp; omega
         have bm:=((W.out.blk (g:=w1.heap.size) (t:=99) (cs:=rc) (by simp)).cell 14).trans b9.out
         have af:Hid (Lb L at_ fr t left right=(G4 L at_ right).1):=by
           show _=_
           unfold Lb
           rw [if_neg (fun h=>ax (be.out.trans h))]
         have au:Hid ((Lb L at_ fr t left right).L=L):=by
           show _=_
           rw [af.out]
           exact ae.out
         have hZ:=hide (W.out.big (m:=401) (by omega))
         rw [←af.out] at hZ
         clear W ae af)
      by_cases h1:at_=1
      · first
        | exact absurd (h1.symm.trans a6.out.1) (by decide)
        | (have bC:(at_==1)=true:=by simp [h1]
           have G:=(hZ.out.blk (g:=g5) (t:=161) (cs:=#[.pointer (some ⟨gd,0,none⟩)]) (by simp)).cell
           have a7:=((hZ.out.blk (g:=w1.heap.size) (t:=99) (cs:=rc) (by simp)).cell 13).trans ah.out
           have hP:Hid (Ww L at_ fr t left right=Lb L at_ fr t left right):=if_pos h1
           go_wp2_with fail
           go_ret
           refine⟨gd,gm,1000,rfl,by decide,?_⟩
           rw [hP.out]
           exact(hZ.out.big (by omega)).sub (fun _ h=>by cases h) (fun _ h=>by cases h))
      · have bC:(at_==1)=false:=by simp [h1]
        have G:=(hZ.out.blk (g:=g5) (t:=161) (cs:=#[.pointer (some ⟨gd,0,none⟩)]) (by simp)).cell
        have a7:=((hZ.out.blk (g:=w1.heap.size) (t:=99) (cs:=rc) (by simp)).cell 13).trans ah.out
        have hP:Hid (Ww L at_ fr t left right=WI (Lb L at_ fr t left right) (G4 L at_ right).2 fr t left):=if_neg h1
        clear h1
        go_wp2_with fail
        refine Calls.ret (hZ.out.keep_ (L:=L) (F:=157) (caps:=[.pointer (some ⟨g5,0,none⟩),.pointer (some ⟨w1.heap.size,0,none⟩)]) (κ:=Wl left) (f:=(0,0,0)) (ef:=e1) (S0:=[]) au.out hL (by simp) (fun _ h=>by cases h) (fun _ _=>WX a3.out (by simp) (by simp)) (.inr (.inl ⟨_,_,rfl,by simp⟩)) (by omega)) ?_
        rintro v cq ⟨rfl,y⟩
        have hW:=hide y
        have b5:Hid (((Lb L at_ fr t left right).kp (0,0,0) (Wl left)).L=L):=by
          show _=_
          rw [Drw.kp_L]
          exact au.out
        clear y hZ au G a7
        go_wp2_with fail
        refine Yd (g3:=w1.heap.size) hW.out b5.out hL a3.out (by simp) (by simp) (by omega) ?_ ?_
        · repeat (first | refine Reg.NoQ.then ?_ | refine Reg.NoQ.inBlock ?_ | exact Reg.NoQ.body (fun _ _ h=>h) (fun _ h=>h))
        iterate 12 (intro _)
        intro c0 S' aZ b2 cc
        clear hW b5
        have hd:=hide (aZ.keep (Ap c0))
        have bF:=hide (b2 ((G4 L at_ right).2,_) List.mem_cons_self)
        have G:=(hd.out.blk (g:=g5) (t:=161) (cs:=#[.pointer (some ⟨gd,0,none⟩)]) (by simp)).cell
        have aR:=((hd.out.blk (g:=w1.heap.size) (t:=99) (cs:=rc) (by simp)).cell 2).trans a3.out.fr
        have aS:=((hd.out.blk (g:=w1.heap.size) (t:=99) (cs:=rc) (by simp)).cell 3).trans a3.out.tt
        have az:=hide (hd.out.push 3 #[.int .i64 1,.int .i64 1])
        have q5:=(az.out.blk (g:=g5) (t:=161) (cs:=#[.pointer (some ⟨gd,0,none⟩)]) (by simp)).cell 0
        have bv:=((az.out.blk (g:=w1.heap.size) (t:=99) (cs:=rc) (by simp)).cell 2).trans a3.out.fr
        have bw:=((az.out.blk (g:=w1.heap.size) (t:=99) (cs:=rc) (by simp)).cell 3).trans a3.out.tt
        clear aZ b2 az
        go_wp2_with fail
        refine Reg.cC [0,0,0,6,0,16,0,64,0,511] [0,1,4,5,6,7,8,2,3,9] ?_ (by kernel_rfl) (by repeat (first | refine Reg.NoQ.then ?_ | refine Reg.NoQ.inBlock ?_ | exact Reg.NoQ.body (fun _ _ h=>h) (fun _ h=>h)))
        refine Reg.rest_walk' [0,1,4,5,6,7,8,2] [3,9] rfl (by kernel_rfl) ?_
        intro Qf E
        go_wp2_with fail
        first | refine E _ _ ?_ | skip
        try clear E
        refine Reg.rest_act' 3 [9] [0,5,7] rfl (by kernel_rfl) ?_
        intro Qf E
        try simp only [gT,gS,gZ]
        go_wp2_with fail
        refine Calls.ret (hd.out.state (1,1,0) (m:=2) (.inr (.inl ⟨rfl,rfl⟩)) (by omega) rfl) ?_
        rintro v cr ⟨cb,rfl,y⟩
        have hV:=hide y
        have p5:=(hV.out.blk (g:=g5) (t:=161) (cs:=#[.pointer (some ⟨gd,0,none⟩)]) (by simp)).cell 0
        have bt:=((hV.out.blk (g:=w1.heap.size) (t:=99) (cs:=rc) (by simp)).cell 2).trans a3.out.fr
        have bu:=((hV.out.blk (g:=w1.heap.size) (t:=99) (cs:=rc) (by simp)).cell 3).trans a3.out.tt
        clear y
        go_wp2_with fail
        first | refine E _ _ ⟨?_,?_⟩ | refine⟨?_,?_⟩
        · intro z hz q O
          simp only [List.mem_cons,List.not_mem_nil,or_false] at hz
          rcases hz with rfl | rfl | rfl
          · injection O with O
            subst O
            exact Reg.same_load1 rfl rfl (q5) (p5) Tryz.underlying161 rfl
          · injection O with O
            subst O
            exact Reg.same_load1 rfl rfl (bv) (bt) Tryz.underlying3 rfl
          · injection O with O
            subst O
            exact Reg.same_load1 rfl rfl (bw) (bu) Tryz.underlying3 rfl
        try clear E
        refine Reg.rest_act' 9 [] [] rfl (by kernel_rfl) ?_
        intro Qf E
        try simp only [gT,gS,gZ]
        go_wp2_with fail
        refine Calls.ret (hV.out.move (a:=(1,1,0)) (b:=(G4 L at_ right).2) (by simp) (List.mem_cons_of_mem _ bF.out) (by omega)) ?_
        rintro v ct ⟨rfl,y⟩
        have hU:=hide y
        clear y G aR aS q5 bv bw p5 bt bu hd hV
        have G:=(hU.out.blk (g:=g5) (t:=161) (cs:=#[.pointer (some ⟨gd,0,none⟩)]) (by simp)).cell
        go_wp2_with fail
        first | refine E _ _ ⟨Reg.nm,?_⟩ | refine⟨Reg.nm,?_⟩
        try clear E
        first | refine Reg.rest_end ?_ | skip
        go_wp2_with fail
        go_ret
        refine⟨gd,gm,1000,rfl,by decide,?_⟩
        rw [hP.out]
        exact(hU.out.big (by omega)).sub (fun _ h=>by cases h) (fun _ h=>by cases h)
end Go.Proofs.YtfcfpoemojjglaaGreatDoor
