/-
  Part SH of a proof.
-/
import Derived.Test.YtfcfpoemojjglaaGreatDoorPA
import Derived.Test.YtfcfpoemojjglaaGreatDoorSF
import Derived.Test.YtfcfpoemojjglaaGreatDoorSG
import Derived.Test.YtfcfpoemojjglaaGreatDoorCE
set_option maxHeartbeats 16000000
set_option maxRecDepth 100000
set_option linter.unusedVariables false
set_option linter.unusedSimpArgs false
namespace Go.Proofs.YtfcfpoemojjglaaGreatDoor
open Go.RowKit
open K (Ah)
attribute [-go_sem] loadCellsFrom
set_option maxHeartbeats 16000000
set_option maxRecDepth 100000
theorem ZJ {w:World} {pc rc:Array Value} {A:Option Addr} {L c:Nat} {fr t at_:Int} {left right:List Int} (bm:pc.size=10) (bl:pc[2]?=some (.slice A L c)) (hL:L≤60) (hr:K4 w rc fr t left right) (b7:rc[13]?=some (.int .i64 at_)):
    Calls Tryz.prog 105 #[.agg pc,.agg rc] w (Ret fun v w'=>∃gd gm n,v=.pointer (some ⟨gd,0,none⟩)∧n≤10000∧DrS w w' gd gm (Q6 L at_ fr t left right) n [] []):=by
  obtain⟨y,cj,aK,aU,-⟩:=Ae w pc 27
  obtain⟨w2,ck,a5,ab,-⟩:=Ae y rc 99
  have b8:=aK.trans (a5.mono aK.size)
  have aE:=aU.below a5
  have bW:=Ah aE bm
  have a3:=hide hr
  have ag:=hide b7
  clear b7
  have bq:=hide (Xo (w0:=w) (ls:=[(w.heap.size,27,pc),(y.heap.size,99,rc)]) b8 bl hL (fun x hx=>by
    simp only [List.mem_cons,List.not_mem_nil,or_false] at hx
    rcases hx with rfl | rfl
    · exact aE
    · exact ab))
  obtain⟨A6,c6,aL,aH⟩:=hr.left
  obtain⟨A7,c7,aM,aJ⟩:=hr.right
  obtain⟨ml,av⟩:∃m,m=left.length:=⟨_,rfl⟩
  obtain⟨Z,ax⟩:∃m,m=right.length:=⟨_,rfl⟩
  rw [←av] at aL
  rw [←ax] at aM
  have ba:=hide aL
  have au:=hide aM
  have bf:=hide av
  have bY:=hide ax
  have ce:=hide aH
  have cf:=hide aJ
  have ch:ml≤9223372036854775807∧Z≤9223372036854775807:=⟨by rw [av]; exact aH.1,by rw [ax]; exact aJ.1⟩
  clear aK a5 aU ab b8 aE bl bm hr aL aM aH aJ av ax
  go_enter Tryz.func105,Tryz.ntmps105
  go_wp2_with fail
  refine Calls.ret bq.out ?_
  rintro v w3 ⟨gd,gm,rfl,hM,bF⟩
  have hD:=(show DrS w w3 gd gm ⟨L,[],[],[],[]⟩ 0 _ [] from⟨_,_,_,hM,fun p O=>by cases O⟩)
  obtain⟨w4,bZ,aF,bc⟩:=hD.pushE 161 #[.pointer (some ⟨gd,0,none⟩)]
  obtain⟨g5,bd⟩:=Ws bc
  rw [bd] at aF
  clear hM bq bW bF hD bc
  go_wp2_with fail
  clear bZ bd
  refine ZM aF.out List.mem_cons_self (by omega) ?_ ?_
  · repeat (first | refine Reg.NoQ.then ?_ | refine Reg.NoQ.inBlock ?_ | exact Reg.NoQ.body (fun _ _ h=>h) (fun _ h=>h))
  iterate 6 (intro _)
  intro w5 g7 e1 M ac
  have I:=(ac.blk (g:=g5) (t:=161) (cs:=#[.pointer (some ⟨gd,0,none⟩)]) (by simp)).cell
  obtain⟨⟨bC,aj,bo⟩,ak⟩:=ac.begin (a:=(0,0,0)) (e:=e1) (by simp only [Drw.add_st]) (by simp)
  obtain⟨w6,bs,b9,-,-⟩:=Ae w5 #[.int .i64 (e1:Int)] 3
  rw [bs] at aj ak
  have bE:=hide ak
  have bb:=aj.cell
  have bS:=aj.frozen 2
  have bU:=aj.lt
  obtain⟨u6,br⟩:∃u,bC[2]?=some u:=⟨_,Array.getElem?_eq_getElem bo⟩
  have bK:=(bb 2).trans br
  have bI:=((ac.keep b9).blk (g:=g5) (t:=161) (cs:=#[.pointer (some ⟨gd,0,none⟩)]) (by simp)).cell
  have bJ:=(ak.blk (g:=g5) (t:=161) (cs:=#[.pointer (some ⟨gd,0,none⟩)]) (by simp)).cell
  have bL:=(ak.blk (g:=g7) (t:=3) (cs:=#[.int .i64 (M:Int)]) (by simp)).cell
  clear aF ac aj bb br bo ak b9
  go_wp2_with fail
  refine Calls.ret (bE.out.free (L:=L) (s:=(5,0,0)) (es:=M) (by simp only [Drw.beg_L,Drw.add_L]) hL (by simp) (by omega)) ?_
  rintro v wX ⟨rfl,aY⟩
  have E:Hid (DrS w wX gd gm (dr0 L) 200 [(g7,3,#[.int .i64 (M:Int)]),(g5,161,#[.pointer (some ⟨gd,0,none⟩)]),(w.heap.size,27,pc),(y.heap.size,99,rc)] [((5,0,0),M),((0,0,0),e1)]):=hide (aY.big (by omega))
  have J:Hid ((dr0 L).L=L):=hide (by unfold dr0; simp only [Drw.free_L,Drw.beg_L,Drw.add_L])
  clear I bI bJ bL bS bU bK aY bs
  have bN:(Ww 0∧at_=2∧Z=0)∨(Ww 1∧at_=2∧Z≠0)∨(Ww 2∧at_≠2∧Z≠0)∨(Ww 3∧at_≠2∧Z=0):=by
    by_cases h1:at_=2 <;> by_cases h2:Z=0
    · exact .inl ⟨.mk 0,h1,h2⟩
    · exact .inr (.inl ⟨.mk 1,h1,h2⟩)
    · exact .inr (.inr (.inr ⟨.mk 3,h1,h2⟩))
    · exact .inr (.inr (.inl ⟨.mk 2,h1,h2⟩))
  have bO:(WX 0∧ml=0)∨(WX 1∧ml≠0):=by
    by_cases h1:ml=0
    · exact .inl ⟨.mk 0,h1⟩
    · exact .inr ⟨.mk 1,h1⟩
  rcases bN with⟨hk,aa,ao⟩ | ⟨hk,aa,ao⟩ | ⟨hk,aa,ao⟩ | ⟨hk,aa,ao⟩
  all_goals
    have a6:=hide (And.intro aa ao)
    have a5:Hid (Ao L at_ right=if at_=2 then (if Z=0 then ((dr0 L).add (6,0,0)).acc (6,0,0) else (dr0 L).add (6,0,0),(6,0,0)) else if 0<Z then (((dr0 L).add (2,0,0)).kp (2,0,0) (B4 right),(2,0,0)) else (dr0 L,(5,0,0))):=by show _=_; rw [bY.out]; rfl
    first
      | (have aN:Ww 0:=hk
         have aD:(at_==2)=true:=by simp [aa]
         have aP:((Z:Int)==0)=true:=by simp [ao]
         have I:=(E.out.blk (g:=g5) (t:=161) (cs:=#[.pointer (some ⟨gd,0,none⟩)]) (by simp)).cell
         have ah:=(E.out.blk (g:=g7) (t:=3) (cs:=#[.int .i64 (M:Int)]) (by simp)).cell
         have a7:=((E.out.blk (g:=y.heap.size) (t:=99) (cs:=rc) (by simp)).cell 13).trans ag.out
         go_wp2_with fail
         refine Calls.ret (E.out.state (6,0,0) (m:=1) (.inl ⟨rfl,rfl,rfl⟩) (by omega) rfl) ?_
         rintro v w8 ⟨eb,rfl,C⟩
         have V:=hide C
         clear C
         clear I ah a7
         have I:=(V.out.blk (g:=g5) (t:=161) (cs:=#[.pointer (some ⟨gd,0,none⟩)]) (by simp)).cell
         have aA:=((V.out.blk (g:=y.heap.size) (t:=99) (cs:=rc) (by simp)).cell 15).trans au.out
         go_wp2_with fail
         have an:=V.out.keep (Ap w8)
         have bQ:=(an.blk (show(g5,161,#[.pointer (some ⟨gd,0,none⟩)])∈[(g7,3,#[.int .i64 (M:Int)]),(g5,161,#[.pointer (some ⟨gd,0,none⟩)]),(w.heap.size,27,pc),(y.heap.size,99,rc)] by simp)).cell
         obtain⟨AA,mA,cA,⟨co,cm,aV⟩,ci,ys,bj,bh⟩:=an.app (a:=(6,0,0)) (e:=eb) (by simp) (by omega)
         have bM:=aV.cell
         have bp:=an.below.size
         have q5:=(((an.push 3 #[.int .i64 (eb:Int)]).blk (List.mem_cons_of_mem _ (show(g5,161,#[.pointer (some ⟨gd,0,none⟩)])∈[(g7,3,#[.int .i64 (M:Int)]),(g5,161,#[.pointer (some ⟨gd,0,none⟩)]),(w.heap.size,27,pc),(y.heap.size,99,rc)] by simp))).cell 0)
         have bi:=hide bh
         clear an bh aV
         go_wp2_with fail
         refine Reg.cC [0,0,2,6,14,30,0,64,254,511,1023,2047,4095] [0,1,2,3,4,5,6,7,8,9,10,11,12] ?_ (by kernel_rfl) (by repeat (first | refine Reg.NoQ.then ?_ | refine Reg.NoQ.inBlock ?_ | exact Reg.NoQ.body (fun _ _ h=>h) (fun _ h=>h)))
         refine Reg.rest_walk' [0,1,2,3,4,5,6,7] [8,9,10,11,12] rfl (by kernel_rfl) ?_
         intro Qf G
         go_wp2_with fail
         first | refine G _ _ ?_ | skip
         try clear G
         refine Reg.rest_act' 8 [9,10,11,12] [0] rfl (by kernel_rfl) ?_
         intro Qf G
         try simp only [gT,gS,gZ]
         refine BP (w:=w8.drew) C9 rfl _ _ rfl w.heap.size (.slice AA mA cA) mA _ rfl bj [.int .i64 (eb:Int)] 1 rfl rfl (by simp [Value.oneCell']) (by omega) bp ?_
         intro g cap w9 bk hk bg hg
         obtain⟨⟨cp,cn,ab⟩,be,ac⟩:=bi.out g cap w9 bk hk bg
         have p5:=(be _ (show(g5,161,#[.pointer (some ⟨gd,0,none⟩)])∈[(g7,3,#[.int .i64 (M:Int)]),(g5,161,#[.pointer (some ⟨gd,0,none⟩)]),(w.heap.size,27,pc),(y.heap.size,99,rc)] by simp)).cell 0
         have af:=hide ac
         have bH:=ab.cell
         have bR:=ab.frozen 3
         have bT:=ab.lt
         clear bk hk bg ab be ac bj
         first | refine G _ _ ⟨?_,?_⟩ | refine⟨?_,?_⟩
         · intro z hz q U
           simp only [List.mem_cons,List.not_mem_nil,or_false] at hz
           subst hz
           injection U with U
           subst U
           exact Reg.same_load1 rfl rfl (q5) (p5) Tryz.underlying161 rfl
         try clear G
         refine Reg.rest_walk' [9,10,11] [12] rfl (by kernel_rfl) ?_
         intro Qf G
         go_wp2_with fail
         first | refine G _ _ ?_ | skip
         try clear G
         refine Reg.rest_act' 12 [] [] rfl (by kernel_rfl) ?_
         intro Qf G
         try simp only [gT,gS,gZ]
         go_wp2_with fail
         first | refine G _ _ ⟨Reg.nm,?_⟩ | refine⟨Reg.nm,?_⟩
         try clear G
         first | refine Reg.rest_end ?_ | skip
         clear bQ bM bp bi bH bR bT
         obtain⟨wX,c0⟩:∃wY,w9.setCell ⟨gd,3,none⟩ (.slice (some ⟨g,0,none⟩) (mA+1) cap)=wY:=⟨_,rfl⟩
         rw [c0] at af
         have a2:Hid (Ao L at_ right=(((dr0 L).add (6,0,0)).acc (6,0,0),(6,0,0))):=by
           show _=_
           rw [a5.out]
           rw [if_pos a6.out.1,if_pos a6.out.2]
         have W:Hid (DrS w wX gd gm (Ao L at_ right).1 400 [(g7,3,#[.int .i64 (M:Int)]),(g5,161,#[.pointer (some ⟨gd,0,none⟩)]),(w.heap.size,27,pc),(y.heap.size,99,rc)] [((Ao L at_ right).2,eb),((0,0,0),e1)]):=by
           show DrS _ _ _ _ _ _ _ _
           rw [a2.out]
           exact(DrS.big af.out (by omega)).sub (fun _ h=>h) (fun p O=>by simp at O ⊢; rcases O with rfl | rfl <;> simp)
         have ad:Hid ((Ao L at_ right).1.L=L):=by
           show _=_
           rw [a2.out]
           first | exact J.out | (rw [Drw.acc_L,Drw.add_L]; exact J.out) | (rw [Drw.add_L]; exact J.out) | (rw [Drw.kp_L,Drw.add_L]; exact J.out)
         clear E V af)
      | (have aN:Ww 1:=hk
         have aD:(at_==2)=true:=by simp [aa]
         have aP:((Z:Int)==0)=false:=by simp; omega
         have I:=(E.out.blk (g:=g5) (t:=161) (cs:=#[.pointer (some ⟨gd,0,none⟩)]) (by simp)).cell
         have ah:=(E.out.blk (g:=g7) (t:=3) (cs:=#[.int .i64 (M:Int)]) (by simp)).cell
         have a7:=((E.out.blk (g:=y.heap.size) (t:=99) (cs:=rc) (by simp)).cell 13).trans ag.out
         go_wp2_with fail
         refine Calls.ret (E.out.state (6,0,0) (m:=1) (.inl ⟨rfl,rfl,rfl⟩) (by omega) rfl) ?_
         rintro v wX ⟨eb,rfl,C⟩
         have V:=hide C
         clear C
         clear I ah a7
         have aA:=((V.out.blk (g:=y.heap.size) (t:=99) (cs:=rc) (by simp)).cell 15).trans au.out
         have a2:Hid (Ao L at_ right=((dr0 L).add (6,0,0),(6,0,0))):=by
           show _=_
           rw [a5.out]
           rw [if_pos a6.out.1,if_neg a6.out.2]
         have W:Hid (DrS w wX gd gm (Ao L at_ right).1 400 [(g7,3,#[.int .i64 (M:Int)]),(g5,161,#[.pointer (some ⟨gd,0,none⟩)]),(w.heap.size,27,pc),(y.heap.size,99,rc)] [((Ao L at_ right).2,eb),((0,0,0),e1)]):=by
           show DrS _ _ _ _ _ _ _ _
           rw [a2.out]
           exact(DrS.big V.out (by omega)).sub (fun _ h=>h) (fun p O=>by simp at O ⊢; rcases O with rfl | rfl <;> simp)
         have ad:Hid ((Ao L at_ right).1.L=L):=by
           show _=_
           rw [a2.out]
           first | exact J.out | (rw [Drw.acc_L,Drw.add_L]; exact J.out) | (rw [Drw.add_L]; exact J.out) | (rw [Drw.kp_L,Drw.add_L]; exact J.out)
         clear E V)
      | (have aN:Ww 2:=hk
         have aD:(at_==2)=false:=by simp [aa]
         have aP:(0:Int)<(Z:Int):=by omega
         have I:=(E.out.blk (g:=g5) (t:=161) (cs:=#[.pointer (some ⟨gd,0,none⟩)]) (by simp)).cell
         have ah:=(E.out.blk (g:=g7) (t:=3) (cs:=#[.int .i64 (M:Int)]) (by simp)).cell
         have a7:=((E.out.blk (g:=y.heap.size) (t:=99) (cs:=rc) (by simp)).cell 13).trans ag.out
         have aA:=((E.out.blk (g:=y.heap.size) (t:=99) (cs:=rc) (by simp)).cell 15).trans au.out
         go_wp2_with fail
         refine Calls.ret (E.out.state (2,0,0) (m:=1) (.inl ⟨rfl,rfl,rfl⟩) (by omega) rfl) ?_
         rintro v w8 ⟨eb,rfl,C⟩
         have V:=hide C
         clear C
         clear I ah a7 aA
         have I:=(V.out.blk (g:=g5) (t:=161) (cs:=#[.pointer (some ⟨gd,0,none⟩)]) (by simp)).cell
         have bP:Hid (((dr0 L).add (2,0,0)).L=L):=hide (by rw [Drw.add_L]; exact J.out)
         go_wp2_with fail
         refine Calls.ret (V.out.keep_ (L:=L) (F:=156) (caps:=[.pointer (some ⟨y.heap.size,0,none⟩),.pointer (some ⟨g7,0,none⟩)]) (κ:=B4 right) (f:=(2,0,0)) (ef:=eb) (S0:=[((5,0,0),M)]) bP.out hL (by simp) (by simp) (fun _ _=>Yv a3.out (by simp) (by simp)) (.inr (.inl ⟨_,_,rfl,by simp⟩)) (by omega)) ?_
         rintro v wX ⟨rfl,C⟩
         have af:=hide C
         clear C I
         have a2:Hid (Ao L at_ right=(((dr0 L).add (2,0,0)).kp (2,0,0) (B4 right),(2,0,0))):=by
           show _=_
           rw [a5.out]
           rw [if_neg a6.out.1,if_pos (by have:=a6.out.2; omega)]
         have W:Hid (DrS w wX gd gm (Ao L at_ right).1 400 [(g7,3,#[.int .i64 (M:Int)]),(g5,161,#[.pointer (some ⟨gd,0,none⟩)]),(w.heap.size,27,pc),(y.heap.size,99,rc)] [((Ao L at_ right).2,eb),((0,0,0),e1)]):=by
           show DrS _ _ _ _ _ _ _ _
           rw [a2.out]
           exact(DrS.big af.out (by omega)).sub (fun _ h=>h) (fun p O=>by simp at O ⊢; rcases O with rfl | rfl <;> simp)
         have ad:Hid ((Ao L at_ right).1.L=L):=by
           show _=_
           rw [a2.out]
           first | exact J.out | (rw [Drw.acc_L,Drw.add_L]; exact J.out) | (rw [Drw.add_L]; exact J.out) | (rw [Drw.kp_L,Drw.add_L]; exact J.out)
         clear E V af)
      | (have aN:Ww 3:=hk
         have aD:(at_==2)=false:=by simp [aa]
         have aP:¬(0:Int)<(Z:Int):=by omega
         have ah:=(E.out.blk (g:=g7) (t:=3) (cs:=#[.int .i64 (M:Int)]) (by simp)).cell
         have a7:=((E.out.blk (g:=y.heap.size) (t:=99) (cs:=rc) (by simp)).cell 13).trans ag.out
         have aA:=((E.out.blk (g:=y.heap.size) (t:=99) (cs:=rc) (by simp)).cell 15).trans au.out
         have a2:Hid (Ao L at_ right=(dr0 L,(5,0,0))):=by
           show _=_
           rw [a5.out]
           rw [if_neg a6.out.1,if_neg (by have:=a6.out.2; omega)]
         have W:Hid (DrS w wX gd gm (Ao L at_ right).1 400 [(g7,3,#[.int .i64 (M:Int)]),(g5,161,#[.pointer (some ⟨gd,0,none⟩)]),(w.heap.size,27,pc),(y.heap.size,99,rc)] [((Ao L at_ right).2,M),((0,0,0),e1)]):=by
           show DrS _ _ _ _ _ _ _ _
           rw [a2.out]
           exact(DrS.big E.out (by omega)).sub (fun _ h=>h) (fun p O=>by simp at O ⊢; rcases O with rfl | rfl <;> simp)
         have ad:Hid ((Ao L at_ right).1.L=L):=by
           show _=_
           rw [a2.out]
           first | exact J.out | (rw [Drw.acc_L,Drw.add_L]; exact J.out) | (rw [Drw.add_L]; exact J.out) | (rw [Drw.kp_L,Drw.add_L]; exact J.out)
         clear E)
    clear J a5
    rcases bO with⟨hm,aw⟩ | ⟨hm,aw⟩
    all_goals
      first
      | (have bX:WX 0:=hm
         have bV:((ml:Int)==0)=true:=by simp [aw]
         have I:=(W.out.blk (g:=g5) (t:=161) (cs:=#[.pointer (some ⟨gd,0,none⟩)]) (by simp)).cell
         have bn:=((W.out.blk (g:=y.heap.size) (t:=99) (cs:=rc) (by simp)).cell 14).trans ba.out
         have aQ:=((W.out.blk (g:=y.heap.size) (t:=99) (cs:=rc) (by simp)).cell 2).trans a3.out.fr
         have aR:=((W.out.blk (g:=y.heap.size) (t:=99) (cs:=rc) (by simp)).cell 3).trans a3.out.tt
         go_wp2_with fail
         refine Calls.ret (W.out.move (a:=(0,0,0)) (b:=(Ao L at_ right).2) (by simp) (by simp) (by omega)) ?_
         rintro v wX ⟨rfl,C⟩
         have ae:Hid (K3 L at_ fr t left right=(Ao L at_ right).1.mov (0,0,0) fr t (Ao L at_ right).2):=by
           show _=_
           unfold K3
           rw [if_pos (bf.out.symm.trans aw)]
         have ar:Hid ((K3 L at_ fr t left right).L=L):=by
           show _=_
           rw [ae.out]
           exact ad.out
         rw [←ae.out] at C
         have hZ:=hide C
         clear C W ad ae I bn aQ aR)
      | (have bX:WX 1:=hm
         have bV:((ml:Int)==0)=false:=by simp; omega
         have bn:=((W.out.blk (g:=y.heap.size) (t:=99) (cs:=rc) (by simp)).cell 14).trans ba.out
         have ae:Hid (K3 L at_ fr t left right=(Ao L at_ right).1):=by
           show _=_
           unfold K3
           rw [if_neg (fun h=>aw (bf.out.trans h))]
         have ar:Hid ((K3 L at_ fr t left right).L=L):=by
           show _=_
           rw [ae.out]
           exact ad.out
         have hZ:=hide (W.out.big (m:=401) (by omega))
         rw [←ae.out] at hZ
         clear W ad ae)
      by_cases h1:at_=1
      · first
        | exact absurd (h1.symm.trans a6.out.1) (by decide)
        | (have bD:(at_==1)=true:=by simp [h1]
           have I:=(hZ.out.blk (g:=g5) (t:=161) (cs:=#[.pointer (some ⟨gd,0,none⟩)]) (by simp)).cell
           have a7:=((hZ.out.blk (g:=y.heap.size) (t:=99) (cs:=rc) (by simp)).cell 13).trans ag.out
           have hP:Hid (Q6 L at_ fr t left right=K3 L at_ fr t left right):=if_pos h1
           go_wp2_with fail
           go_ret
           refine⟨gd,gm,1000,rfl,by decide,?_⟩
           rw [hP.out]
           exact(hZ.out.big (by omega)).sub (fun _ h=>by cases h) (fun _ h=>by cases h))
      · have bD:(at_==1)=false:=by simp [h1]
        have I:=(hZ.out.blk (g:=g5) (t:=161) (cs:=#[.pointer (some ⟨gd,0,none⟩)]) (by simp)).cell
        have a7:=((hZ.out.blk (g:=y.heap.size) (t:=99) (cs:=rc) (by simp)).cell 13).trans ag.out
        have hP:Hid (Q6 L at_ fr t left right=WZ (K3 L at_ fr t left right) (Ao L at_ right).2 fr t left):=if_neg h1
        clear h1
        go_wp2_with fail
        refine Calls.ret (hZ.out.keep_ (L:=L) (F:=157) (caps:=[.pointer (some ⟨g5,0,none⟩),.pointer (some ⟨y.heap.size,0,none⟩)]) (κ:=Wh left) (f:=(0,0,0)) (ef:=e1) (S0:=[]) ar.out hL (by simp) (fun _ h=>by cases h) (fun _ _=>XB a3.out (by simp) (by simp)) (.inr (.inl ⟨_,_,rfl,by simp⟩)) (by omega)) ?_
        rintro v cq ⟨rfl,C⟩
        have hW:=hide C
        have b6:Hid (((K3 L at_ fr t left right).kp (0,0,0) (Wh left)).L=L):=by
          show _=_
          rw [Drw.kp_L]
          exact ar.out
        clear C hZ ar I a7
        go_wp2_with fail
        refine ZL (g3:=y.heap.size) hW.out b6.out hL a3.out (by simp) (by simp) (by omega) ?_ ?_
        · repeat (first | refine Reg.NoQ.then ?_ | refine Reg.NoQ.inBlock ?_ | exact Reg.NoQ.body (fun _ _ h=>h) (fun _ h=>h))
        iterate 12 (intro _)
        intro c4 S' aX b0 cd
        clear hW b6
        have hd:=hide (aX.keep (Ap c4))
        have bG:=hide (b0 ((Ao L at_ right).2,_) List.mem_cons_self)
        have I:=(hd.out.blk (g:=g5) (t:=161) (cs:=#[.pointer (some ⟨gd,0,none⟩)]) (by simp)).cell
        have aQ:=((hd.out.blk (g:=y.heap.size) (t:=99) (cs:=rc) (by simp)).cell 2).trans a3.out.fr
        have aR:=((hd.out.blk (g:=y.heap.size) (t:=99) (cs:=rc) (by simp)).cell 3).trans a3.out.tt
        have ay:=hide (hd.out.push 3 #[.int .i64 1,.int .i64 1])
        have q5:=(ay.out.blk (g:=g5) (t:=161) (cs:=#[.pointer (some ⟨gd,0,none⟩)]) (by simp)).cell 0
        have bw:=((ay.out.blk (g:=y.heap.size) (t:=99) (cs:=rc) (by simp)).cell 2).trans a3.out.fr
        have bx:=((ay.out.blk (g:=y.heap.size) (t:=99) (cs:=rc) (by simp)).cell 3).trans a3.out.tt
        clear aX b0 ay
        go_wp2_with fail
        refine Reg.cC [0,0,0,6,0,16,0,64,0,511] [0,1,4,5,6,7,8,2,3,9] ?_ (by kernel_rfl) (by repeat (first | refine Reg.NoQ.then ?_ | refine Reg.NoQ.inBlock ?_ | exact Reg.NoQ.body (fun _ _ h=>h) (fun _ h=>h)))
        refine Reg.rest_walk' [0,1,4,5,6,7,8,2] [3,9] rfl (by kernel_rfl) ?_
        intro Qf G
        go_wp2_with fail
        first | refine G _ _ ?_ | skip
        try clear G
        refine Reg.rest_act' 3 [9] [0,5,7] rfl (by kernel_rfl) ?_
        intro Qf G
        try simp only [gT,gS,gZ]
        go_wp2_with fail
        refine Calls.ret (hd.out.state (1,1,0) (m:=2) (.inr (.inl ⟨rfl,rfl⟩)) (by omega) rfl) ?_
        rintro v cr ⟨cc,rfl,C⟩
        have hV:=hide C
        have p5:=(hV.out.blk (g:=g5) (t:=161) (cs:=#[.pointer (some ⟨gd,0,none⟩)]) (by simp)).cell 0
        have bu:=((hV.out.blk (g:=y.heap.size) (t:=99) (cs:=rc) (by simp)).cell 2).trans a3.out.fr
        have bv:=((hV.out.blk (g:=y.heap.size) (t:=99) (cs:=rc) (by simp)).cell 3).trans a3.out.tt
        clear C
        go_wp2_with fail
        first | refine G _ _ ⟨?_,?_⟩ | refine⟨?_,?_⟩
        · intro z hz q U
          simp only [List.mem_cons,List.not_mem_nil,or_false] at hz
          rcases hz with rfl | rfl | rfl
          · injection U with U
            subst U
            exact Reg.same_load1 rfl rfl (q5) (p5) Tryz.underlying161 rfl
          · injection U with U
            subst U
            exact Reg.same_load1 rfl rfl (bw) (bu) Tryz.underlying3 rfl
          · injection U with U
            subst U
            exact Reg.same_load1 rfl rfl (bx) (bv) Tryz.underlying3 rfl
        try clear G
        refine Reg.rest_act' 9 [] [] rfl (by kernel_rfl) ?_
        intro Qf G
        try simp only [gT,gS,gZ]
        go_wp2_with fail
        refine Calls.ret (hV.out.move (a:=(1,1,0)) (b:=(Ao L at_ right).2) (by simp) (List.mem_cons_of_mem _ bG.out) (by omega)) ?_
        rintro v ct ⟨rfl,C⟩
        have hU:=hide C
        clear C I aQ aR q5 bw bx p5 bu bv hd hV
        have I:=(hU.out.blk (g:=g5) (t:=161) (cs:=#[.pointer (some ⟨gd,0,none⟩)]) (by simp)).cell
        go_wp2_with fail
        first | refine G _ _ ⟨Reg.nm,?_⟩ | refine⟨Reg.nm,?_⟩
        try clear G
        first | refine Reg.rest_end ?_ | skip
        go_wp2_with fail
        go_ret
        refine⟨gd,gm,1000,rfl,by decide,?_⟩
        rw [hP.out]
        exact(hU.out.big (by omega)).sub (fun _ h=>by cases h) (fun _ h=>by cases h)
end Go.Proofs.YtfcfpoemojjglaaGreatDoor
