/-
  Part SI of a proof.
-/
import Derived.Test.YtfcfpoemojjglaaGreatDoorPA
import Derived.Test.YtfcfpoemojjglaaGreatDoorSF
import Derived.Test.YtfcfpoemojjglaaGreatDoorSG
import Derived.Test.YtfcfpoemojjglaaGreatDoorCE
set_option maxHeartbeats 16000000
set_option maxRecDepth 100000
set_option linter.unusedVariables false
set_option linter.unusedSimpArgs false
namespace Go.Proofs.YtfcfpoemojjglaaGreatDoor
open Go.RowKit
open K (Ah)
attribute [-go_sem] loadCellsFrom
set_option maxHeartbeats 16000000
set_option maxRecDepth 100000
@[go_sem] theorem aAW {P:Program} {a:Addr} {m:Mode} {w:World} (f:Fn) (h cs:Array Value):(store a (.func f h cs) m).run P w=stored P w a (.func f h cs) m:=run_store P w a _ m rfl
theorem aAt {w:World} {pc rc:Array Value} {A:Option Addr} {L c:Nat} {fr t:Int} {left right:List Int} (bv:pc.size=10) (bu:pc[2]?=some (.slice A L c)) (hL:L≤60) (hr:K4 w rc fr t left right):
    Calls Tryz.prog 104 #[.agg pc,.agg rc] w (Ret fun v w'=>∃gd gm n,v=.pointer (some ⟨gd,0,none⟩)∧n≤10000∧DrS w w' gd gm (Wl L fr t left right) n [] []):=by
  obtain⟨y,cH,a7,b0,-⟩:=Ae w pc 27
  obtain⟨w2,cJ,a8,M,-⟩:=Ae y rc 99
  have bg:=a7.trans (a8.mono a7.size)
  have aD:=b0.below a8
  have cd:=Ah aD bv
  have ab:=hide hr
  have bB:=hide (Xo (w0:=w) (ls:=[(w.heap.size,27,pc),(y.heap.size,99,rc)]) bg bu hL (fun x hx=>by
    simp only [List.mem_cons,List.not_mem_nil,or_false] at hx
    rcases hx with rfl | rfl
    · exact aD
    · exact M))
  obtain⟨A6,c6,aR,aM⟩:=hr.left
  obtain⟨A7,c7,aS,aN⟩:=hr.right
  obtain⟨ml,ax⟩:∃m,m=left.length:=⟨_,rfl⟩
  obtain⟨mr,ay⟩:∃m,m=right.length:=⟨_,rfl⟩
  rw [←ax] at aR
  rw [←ay] at aS
  have bT:=hide aR
  have bU:=hide aS
  have ce:=hide ax
  have cf:=hide ay
  have bP:=hide aM
  have bQ:=hide aN
  have cB:ml≤9223372036854775807∧mr≤9223372036854775807:=⟨by rw [ax]; exact aM.1,by rw [ay]; exact aN.1⟩
  clear a7 a8 b0 M bg aD bu bv hr aR aS aM aN ax ay
  go_enter Tryz.func104,Tryz.ntmps104
  go_wp2_with fail
  refine Calls.ret bB.out ?_
  rintro v w3 ⟨gd,gm,rfl,V,bS⟩
  have hD:=(show DrS w w3 gd gm ⟨L,[],[],[],[]⟩ 0 _ [] from⟨_,_,_,V,fun p hp=>by cases hp⟩)
  obtain⟨w4,cm,aE,bm⟩:=hD.pushE 161 #[.pointer (some ⟨gd,0,none⟩)]
  obtain⟨g5,bn⟩:=Ws bm
  rw [bn] at aE
  clear V bB cd bS hD bm
  go_wp2_with fail
  clear cm bn
  refine aAh aE.out List.mem_cons_self (by omega) ?_ ?_
  · repeat (first | refine Reg.NoQ.then ?_ | refine Reg.NoQ.inBlock ?_ | exact Reg.NoQ.body (fun _ _ h=>h) (fun _ h=>h))
  iterate 6 (intro _)
  intro w5 g7 Z E a4
  have I:=(a4.blk (g:=g5) (t:=161) (cs:=#[.pointer (some ⟨gd,0,none⟩)]) (by simp)).cell
  obtain⟨⟨bM,af,bz⟩,ai⟩:=a4.begin (a:=(0,0,0)) (e:=Z) (by simp only [Drw.add_st]) (by simp)
  obtain⟨w6,bE,bi,-,-⟩:=Ae w5 #[.int .i64 (Z:Int)] 3
  rw [bE] at af ai
  have bN:=hide ai
  have bj:=af.cell
  have c9:=af.frozen 2
  have cc:=af.lt
  obtain⟨u6,bC⟩:∃u,bM[2]?=some u:=⟨_,Array.getElem?_eq_getElem bz⟩
  have bX:=(bj 2).trans bC
  have bV:=((a4.keep bi).blk (g:=g5) (t:=161) (cs:=#[.pointer (some ⟨gd,0,none⟩)]) (by simp)).cell
  have bW:=(ai.blk (g:=g5) (t:=161) (cs:=#[.pointer (some ⟨gd,0,none⟩)]) (by simp)).cell
  have bZ:=(ai.blk (g:=g7) (t:=3) (cs:=#[.int .i64 (E:Int)]) (by simp)).cell
  clear aE a4 af bj bC bz ai bi
  go_wp2_with fail
  refine Calls.ret (bN.out.free (L:=L) (s:=(5,0,0)) (es:=E) (by simp only [Drw.beg_L,Drw.add_L]) hL (by simp) (by omega)) ?_
  rintro v W ⟨rfl,b6⟩
  have hX:Hid (DrS w W gd gm (dr0 L) 200 [(g7,3,#[.int .i64 (E:Int)]),(g5,161,#[.pointer (some ⟨gd,0,none⟩)]),(w.heap.size,27,pc),(y.heap.size,99,rc)] [((5,0,0),E),((0,0,0),Z)]):=hide (b6.big (by omega))
  have bk:Hid ((dr0 L).L=L):=hide (by unfold dr0; simp only [Drw.free_L,Drw.beg_L,Drw.add_L])
  clear I bV bW bZ c9 cc bX b6 bE
  have I:=(hX.out.blk (g:=g5) (t:=161) (cs:=#[.pointer (some ⟨gd,0,none⟩)]) (by simp)).cell
  have bY:=(hX.out.blk (g:=g7) (t:=3) (cs:=#[.int .i64 (E:Int)]) (by simp)).cell
  go_wp2_with fail
  refine Calls.ret (hX.out.state (3,0,0) (m:=1) (.inl ⟨rfl,rfl,rfl⟩) (by omega) rfl) ?_
  rintro v w8 ⟨e8,rfl,O⟩
  have ae:=hide O
  clear O
  clear hX I bY
  have I:=(ae.out.blk (g:=g5) (t:=161) (cs:=#[.pointer (some ⟨gd,0,none⟩)]) (by simp)).cell
  have bx:=((ae.out.blk (g:=y.heap.size) (t:=99) (cs:=rc) (by simp)).cell 2).trans ab.out.fr
  have cg:=((ae.out.blk (g:=y.heap.size) (t:=99) (cs:=rc) (by simp)).cell 3).trans ab.out.tt
  go_wp2_with fail
  refine Calls.ret (ae.out.move (a:=(0,0,0)) (b:=(3,0,0)) (by simp) (by simp) (by omega)) ?_
  rintro v W ⟨rfl,O⟩
  have J:=hide O
  clear O ae I bx cg
  have bx:=((J.out.blk (g:=y.heap.size) (t:=99) (cs:=rc) (by simp)).cell 2).trans ab.out.fr
  have cE:=((J.out.blk (g:=y.heap.size) (t:=99) (cs:=rc) (by simp)).cell 14).trans bT.out
  have cF:=((J.out.blk (g:=y.heap.size) (t:=99) (cs:=rc) (by simp)).cell 15).trans bU.out
  have ar:=Wj (c:=c6) (x:=fr) (bP.out.keep (w':=W) (fun p hp=>J.out.below.cell hp) (Nat.le_refl _))
  have av:=Wj (c:=c7) (x:=fr) (bQ.out.keep (w':=W) (fun p hp=>J.out.below.cell hp) (Nat.le_refl _))
  rw [←ce.out] at ar
  rw [←cf.out] at av
  obtain⟨b1,a7⟩:∃b,b=alw left fr:=⟨_,rfl⟩
  obtain⟨b2,a8⟩:∃b,b=alw right fr:=⟨_,rfl⟩
  rw [←a7] at ar
  rw [←a8] at av
  have aQ:=hide a7
  have bh:=hide a8
  have au:=hide ar
  have aP:=hide av
  clear a7 a8 ar av
  have aa:Hid (HH L fr t left right=if b1&&b2 then (((dr0 L).add (3,0,0)).mov (0,0,0) fr t (3,0,0)).acc (3,0,0) else ((dr0 L).add (3,0,0)).mov (0,0,0) fr t (3,0,0)):=by
    show _=_
    rw [aQ.out,bh.out]
    rfl
  have aw:Hid ((((dr0 L).add (3,0,0)).mov (0,0,0) fr t (3,0,0)).L=L):=hide (by rw [Drw.mov_L,Drw.add_L]; exact bk.out)
  clear bk
  cases b1 <;> cases b2
  all_goals
    first
    | (have cb:Hid ((true:Bool)=alw left fr):=aQ
       have cz:Hid ((true:Bool)=alw right fr):=bh
       go_wp2_with fail
       refine au.out.mono ?_
       rintro e' w' ⟨rfl,rfl⟩
       go_wp2_with fail
       refine aP.out.mono ?_
       rintro e' w' ⟨rfl,rfl⟩
       have I:=(J.out.blk (g:=g5) (t:=161) (cs:=#[.pointer (some ⟨gd,0,none⟩)]) (by simp)).cell
       have aj:=J.out.keep (Ap W)
       have c8:=(aj.blk (show(g5,161,#[.pointer (some ⟨gd,0,none⟩)])∈[(g7,3,#[.int .i64 (E:Int)]),(g5,161,#[.pointer (some ⟨gd,0,none⟩)]),(w.heap.size,27,pc),(y.heap.size,99,rc)] by simp)).cell
       obtain⟨AA,mA,cA,⟨cO,cL,b4⟩,cD,ys,bt,br⟩:=aj.app (a:=(3,0,0)) (e:=e8) (by simp) (by omega)
       have c4:=b4.cell
       have bA:=aj.below.size
       have q5:=(((aj.push 3 #[.int .i64 (e8:Int)]).blk (List.mem_cons_of_mem _ (show(g5,161,#[.pointer (some ⟨gd,0,none⟩)])∈[(g7,3,#[.int .i64 (E:Int)]),(g5,161,#[.pointer (some ⟨gd,0,none⟩)]),(w.heap.size,27,pc),(y.heap.size,99,rc)] by simp))).cell 0)
       have bs:=hide br
       clear aj br b4
       go_wp2_with fail
       refine Reg.cC [0,0,2,6,14,30,0,64,254,511,1023,2047,4095] [0,1,2,3,4,5,6,7,8,9,10,11,12] ?_ (by kernel_rfl) (by repeat (first | refine Reg.NoQ.then ?_ | refine Reg.NoQ.inBlock ?_ | exact Reg.NoQ.body (fun _ _ h=>h) (fun _ h=>h)))
       refine Reg.rest_walk' [0,1,2,3,4,5,6,7] [8,9,10,11,12] rfl (by kernel_rfl) ?_
       intro Qf C
       go_wp2_with fail
       first | refine C _ _ ?_ | skip
       try clear C
       refine Reg.rest_act' 8 [9,10,11,12] [0] rfl (by kernel_rfl) ?_
       intro Qf C
       try simp only [gT,gS,gZ]
       refine BP (w:=W.drew) C9 rfl _ _ rfl w.heap.size (.slice AA mA cA) mA _ rfl bt [.int .i64 (e8:Int)] 1 rfl rfl (by simp [Value.oneCell']) (by omega) bA ?_
       intro g cap bK al hk ak hg
       obtain⟨⟨cQ,cM,M⟩,bq,a4⟩:=bs.out g cap bK al hk ak
       have p5:=(bq _ (show(g5,161,#[.pointer (some ⟨gd,0,none⟩)])∈[(g7,3,#[.int .i64 (E:Int)]),(g5,161,#[.pointer (some ⟨gd,0,none⟩)]),(w.heap.size,27,pc),(y.heap.size,99,rc)] by simp)).cell 0
       have aC:=hide a4
       have aT:=M.cell
       have aV:=M.frozen 3
       have aW:=M.lt
       clear al hk ak M bq a4 bt
       first | refine C _ _ ⟨?_,?_⟩ | refine⟨?_,?_⟩
       · intro z hz q G
         simp only [List.mem_cons,List.not_mem_nil,or_false] at hz
         subst hz
         injection G with G
         subst G
         exact Reg.same_load1 rfl rfl (q5) (p5) Tryz.underlying161 rfl
       try clear C
       refine Reg.rest_walk' [9,10,11] [12] rfl (by kernel_rfl) ?_
       intro Qf C
       go_wp2_with fail
       first | refine C _ _ ?_ | skip
       try clear C
       refine Reg.rest_act' 12 [] [] rfl (by kernel_rfl) ?_
       intro Qf C
       try simp only [gT,gS,gZ]
       go_wp2_with fail
       first | refine C _ _ ⟨Reg.nm,?_⟩ | refine⟨Reg.nm,?_⟩
       try clear C
       first | refine Reg.rest_end ?_ | skip
       clear c8 c4 bA bs aT aV aW
       obtain⟨W,cn⟩:∃wY,bK.setCell ⟨gd,3,none⟩ (.slice (some ⟨g,0,none⟩) (mA+1) cap)=wY:=⟨_,rfl⟩
       rw [cn] at aC
       have hB:Hid (DrS w W gd gm (HH L fr t left right) 210 [(g7,3,#[.int .i64 (E:Int)]),(g5,161,#[.pointer (some ⟨gd,0,none⟩)]),(w.heap.size,27,pc),(y.heap.size,99,rc)] [((3,0,0),e8),((5,0,0),E),((0,0,0),Z)]):=by
         show DrS _ _ _ _ _ _ _ _
         rw [aa.out]
         exact aC.out.big (by omega)
       have ag:Hid ((HH L fr t left right).L=L):=by
         show _=_
         rw [aa.out]
         exact aw.out
       clear J aC)
    | (have cb:Hid ((true:Bool)=alw left fr):=aQ
       go_wp2_with fail
       refine au.out.mono ?_
       rintro e' w' ⟨rfl,rfl⟩
       go_wp2_with fail
       refine aP.out.mono ?_
       rintro e' w' ⟨rfl,rfl⟩
       have hB:Hid (DrS w W gd gm (HH L fr t left right) 210 [(g7,3,#[.int .i64 (E:Int)]),(g5,161,#[.pointer (some ⟨gd,0,none⟩)]),(w.heap.size,27,pc),(y.heap.size,99,rc)] [((3,0,0),e8),((5,0,0),E),((0,0,0),Z)]):=by
         show DrS _ _ _ _ _ _ _ _
         rw [aa.out]
         exact J.out.big (by omega)
       have ag:Hid ((HH L fr t left right).L=L):=by
         show _=_
         rw [aa.out]
         exact aw.out
       clear J)
    | (go_wp2_with fail
       refine au.out.mono ?_
       rintro e' w' ⟨rfl,rfl⟩
       have hB:Hid (DrS w W gd gm (HH L fr t left right) 210 [(g7,3,#[.int .i64 (E:Int)]),(g5,161,#[.pointer (some ⟨gd,0,none⟩)]),(w.heap.size,27,pc),(y.heap.size,99,rc)] [((3,0,0),e8),((5,0,0),E),((0,0,0),Z)]):=by
         show DrS _ _ _ _ _ _ _ _
         rw [aa.out]
         exact J.out.big (by omega)
       have ag:Hid ((HH L fr t left right).L=L):=by
         show _=_
         rw [aa.out]
         exact aw.out
       clear J)
    clear aw aa au aP
    obtain⟨cR,cl,hC,bo⟩:=hB.out.pushE 210 #[.func (.func 150) #[] #[.pointer (some ⟨g5,0,none⟩),.pointer (some ⟨y.heap.size,0,none⟩)]]
    obtain⟨g9,bp⟩:=Ws bo
    rw [bp] at hC
    have c0:=(hC.out.blk List.mem_cons_self).cell
    have I:=(hC.out.blk (g:=g5) (t:=161) (cs:=#[.pointer (some ⟨gd,0,none⟩)]) (by simp)).cell
    clear hB bo
    go_wp2_with fail
    refine Calls.ret (hC.out.keep_ (L:=L) (F:=152) (caps:=[.pointer (some ⟨y.heap.size,0,none⟩),.pointer (some ⟨g9,0,none⟩)]) (κ:=Q1 left right) (f:=(3,0,0)) (ef:=e8) (S0:=[]) ag.out hL (by simp) (fun _ h=>by cases h) (fun _ _=>Yx (g5:=g5) ab.out (by simp) (by simp) (by simp)) (.inr (.inl ⟨_,_,rfl,by simp⟩)) (by omega)) ?_
    rintro v cS ⟨rfl,O⟩
    have hE:=hide O
    have b8:Hid (((HH L fr t left right).kp (3,0,0) (Q1 left right)).L=L):=by
      show _=_
      rw [Drw.kp_L]
      exact ag.out
    clear O hC ag I c0 cl bp
    go_wp2_with fail
    refine aAf (g3:=y.heap.size) (g9:=g9) hE.out b8.out hL ab.out (by simp) (by simp) (by simp) (by omega) ?_ ?_
    · repeat (first | refine Reg.NoQ.then ?_ | refine Reg.NoQ.inBlock ?_ | exact Reg.NoQ.body (fun _ _ h=>h) (fun _ h=>h))
    iterate 12 (intro _)
    intro cq S' aF aL aK
    have ch:=hide (aL ((0,0,0),Z) (by simp))
    have cj:=hide (aL ((5,0,0),E) (by simp))
    obtain⟨U,aU⟩:∃U,MR ((HH L fr t left right).kp (3,0,0) (Q1 left right)) left 2=U:=⟨_,rfl⟩
    have bw:Hid (Wk (HH L fr t left right) left right=((U.add (4,1,0)).acc (4,1,0)).kp (0,0,0) (WH left right)):=by
      show _=_
      rw [←aU]
      rfl
    rw [aU] at aF aK
    have bO:=hide aK
    clear hE b8 aL aU aK
    obtain⟨vS,vA,vM,V,be⟩:=aF.keep (Ap cq)
    obtain⟨AA,cA,ck⟩:=AH V.ac
    subst ck
    have cG:U.ac.length≤1000000:=by
      have:=V.sz
      unfold Drw.size at this
      omega
    have c5:=V.bd.cell
    have I:=(V.blk (show(g5,161,#[.pointer (some ⟨gd,0,none⟩)])∈[(g9,210,#[.func (.func 150) #[] #[.pointer (some ⟨g5,0,none⟩),.pointer (some ⟨y.heap.size,0,none⟩)]]),(g7,3,#[.int .i64 (E:Int)]),(g5,161,#[.pointer (some ⟨gd,0,none⟩)]),(w.heap.size,27,pc),(y.heap.size,99,rc)] by simp)).cell
    have aX:=V.push 3 #[.int .i64 4,.int .i64 1]
    have q5:=(aX.blk (List.mem_cons_of_mem _ (show(g5,161,#[.pointer (some ⟨gd,0,none⟩)])∈[(g9,210,#[.func (.func 150) #[] #[.pointer (some ⟨g5,0,none⟩),.pointer (some ⟨y.heap.size,0,none⟩)]]),(g7,3,#[.int .i64 (E:Int)]),(g5,161,#[.pointer (some ⟨gd,0,none⟩)]),(w.heap.size,27,pc),(y.heap.size,99,rc)] by simp))).cell 0
    have qA:=aX.bd.cell 3
    have ba:=hide V
    have bf:=hide be
    clear aF V aX be
    go_wp2_with fail
    refine Reg.cC [0,0,2,6,14,30,0,0,192,448,1022,2047,4095,8191,16383] [0,1,2,3,4,5,6,7,8,9,10,11,12,13,14] ?_ (by kernel_rfl) (by repeat (first | refine Reg.NoQ.then ?_ | refine Reg.NoQ.inBlock ?_ | exact Reg.NoQ.body (fun _ _ h=>h) (fun _ h=>h)))
    refine Reg.rest_walk' [0,1,2,3,4,5,6,7] [8,9,10,11,12,13,14] rfl (by kernel_rfl) ?_
    intro Qf C
    go_wp2_with fail
    first | refine C _ _ ?_ | skip
    try clear C
    refine Reg.rest_act' 8 [9,10,11,12,13,14] [0,1,5] rfl (by kernel_rfl) ?_
    intro Qf C
    try simp only [gT,gS,gZ]
    go_wp2_with fail
    refine Calls.ret (WR (c:=2) (4,1,0) ba.out (m:=2) (.inr (.inl ⟨rfl,rfl⟩)) (by omega) rfl) ?_
    rintro v cr ⟨hv,a5⟩
    obtain⟨aZ,bl⟩:∃e:Nat,Hid (Af (U.add (4,1,0)) (4,1,0)=.int .i64 (e:Int)):=⟨_,rfl⟩
    rw [bl.out] at hv
    subst hv
    have p5:=(a5.blk (show(g5,161,#[.pointer (some ⟨gd,0,none⟩)])∈[(g9,210,#[.func (.func 150) #[] #[.pointer (some ⟨g5,0,none⟩),.pointer (some ⟨y.heap.size,0,none⟩)]]),(g7,3,#[.int .i64 (E:Int)]),(g5,161,#[.pointer (some ⟨gd,0,none⟩)]),(w.heap.size,27,pc),(y.heap.size,99,rc)] by simp)).cell 0
    have pA:=a5.bd.cell 3
    have aO:=a5.ac
    rw [Drw.add_ac] at aO
    have ci:=a5.below.size
    have bI:=((a5.push 3 #[.int .i64 (aZ:Int)]).blk (List.mem_cons_of_mem _ (show(g5,161,#[.pointer (some ⟨gd,0,none⟩)])∈[(g9,210,#[.func (.func 150) #[] #[.pointer (some ⟨g5,0,none⟩),.pointer (some ⟨y.heap.size,0,none⟩)]]),(g7,3,#[.int .i64 (E:Int)]),(g5,161,#[.pointer (some ⟨gd,0,none⟩)]),(w.heap.size,27,pc),(y.heap.size,99,rc)] by simp))).cell 0
    have a6:=hide a5
    clear a5 c5
    go_wp2_with fail
    first | refine C _ _ ⟨?_,?_⟩ | refine⟨?_,?_⟩
    · intro z hz q G
      simp only [List.mem_cons,List.not_mem_nil,or_false] at hz
      rcases hz with rfl | rfl | rfl
      · injection G with G
        subst G
        exact Reg.same_load1 rfl rfl (q5) (p5) Tryz.underlying161 rfl
      · injection G with G
        subst G
        exact Reg.same_load1 rfl rfl (q5) (p5) Tryz.underlying161 rfl
      · injection G with G
        subst G
        exact Reg.same_load1 rfl rfl (qA) (pA) Tryz.underlying24 rfl
    try clear C
    clear q5 p5 qA pA
    refine Reg.rest_walk' [9] [10,11,12,13,14] rfl (by kernel_rfl) ?_
    intro Qf C
    go_wp2_with fail
    first | refine C _ _ ?_ | skip
    try clear C
    refine Reg.rest_act' 10 [11,12,13,14] [0] rfl (by kernel_rfl) ?_
    intro Qf C
    try simp only [gT,gS,gZ]
    refine BP (w:=cr) C9 rfl _ _ rfl w.heap.size (.slice AA U.ac.length cA) U.ac.length _ rfl aO [.int .i64 (aZ:Int)] 1 rfl rfl (by simp [Value.oneCell']) (by omega) ci ?_
    intro g cap ct al hk ak hg
    have hF:=a6.out.addA (a:=(4,1,0)) (vA':=.slice (some ⟨g,0,none⟩) (U.ac.length+1) cap) (Drw.add_mem _ _) hk (by rw [Drw.add_ac,bl.out]; exact al) ak
    have bG:=((a6.out.oth _ (show(g5,161,#[.pointer (some ⟨gd,0,none⟩)])∈[(g9,210,#[.func (.func 150) #[] #[.pointer (some ⟨g5,0,none⟩),.pointer (some ⟨y.heap.size,0,none⟩)]]),(g7,3,#[.int .i64 (E:Int)]),(g5,161,#[.pointer (some ⟨gd,0,none⟩)]),(w.heap.size,27,pc),(y.heap.size,99,rc)] by simp)).1.kept hk (a6.out.oth _ (show(g5,161,#[.pointer (some ⟨gd,0,none⟩)])∈[(g9,210,#[.func (.func 150) #[] #[.pointer (some ⟨g5,0,none⟩),.pointer (some ⟨y.heap.size,0,none⟩)]]),(g7,3,#[.int .i64 (E:Int)]),(g5,161,#[.pointer (some ⟨gd,0,none⟩)]),(w.heap.size,27,pc),(y.heap.size,99,rc)] by simp)).2.2.2.1).cell 0
    have M:=a6.out.bd.kept hk (Aw a6.out.ac a6.out.bd (by decide))
    have aT:=M.cell
    have aV:=M.frozen 3
    have aW:=M.lt
    have hK:Hid (DrS w (ct.setCell ⟨gd,3,none⟩ (.slice (some ⟨g,0,none⟩) (U.ac.length+1) cap)) gd gm ((U.add (4,1,0)).acc (4,1,0)) 600 [(g9,210,#[.func (.func 150) #[] #[.pointer (some ⟨g5,0,none⟩),.pointer (some ⟨y.heap.size,0,none⟩)]]),(g7,3,#[.int .i64 (E:Int)]),(g5,161,#[.pointer (some ⟨gd,0,none⟩)]),(w.heap.size,27,pc),(y.heap.size,99,rc)] S'):=hide (DrS.big (n:=_) ⟨_,_,_,hF,fun p hp=>(bf.out.add (4,1,0)) p hp⟩ (by omega))
    clear al hk ak hF M aO a6 ba bf
    first | refine C _ _ ⟨?_,?_⟩ | refine⟨?_,?_⟩
    · intro z hz q G
      simp only [List.mem_cons,List.not_mem_nil,or_false] at hz
      subst hz
      injection G with G
      subst G
      exact Reg.same_load1 rfl rfl (bI) (bG) Tryz.underlying161 rfl
    try clear C
    clear bI bG
    refine Reg.rest_walk' [11,12,13] [14] rfl (by kernel_rfl) ?_
    intro Qf C
    go_wp2_with fail
    first | refine C _ _ ?_ | skip
    try clear C
    refine Reg.rest_act' 14 [] [] rfl (by kernel_rfl) ?_
    intro Qf C
    try simp only [gT,gS,gZ]
    go_wp2_with fail
    first | refine C _ _ ⟨Reg.nm,?_⟩ | refine⟨Reg.nm,?_⟩
    try clear C
    first | refine Reg.rest_end ?_ | skip
    clear aT aV aW I
    have I:=(hK.out.blk (g:=g5) (t:=161) (cs:=#[.pointer (some ⟨gd,0,none⟩)]) (by simp)).cell
    have aJ:Hid (((U.add (4,1,0)).acc (4,1,0)).L=L):=hide (by rw [Drw.acc_L,Drw.add_L]; exact bO.out)
    go_wp2_with fail
    refine Calls.ret (hK.out.keep_ (L:=L) (F:=153) (caps:=[.pointer (some ⟨g5,0,none⟩),.pointer (some ⟨y.heap.size,0,none⟩)]) (κ:=WH left right) (f:=(0,0,0)) (ef:=Z) (S0:=[]) aJ.out hL ch.out (fun _ h=>by cases h) (fun _ _=>Yw ab.out (by simp) (by simp)) (.inr (.inl ⟨_,_,rfl,by simp⟩)) (by omega)) ?_
    rintro v cT ⟨rfl,O⟩
    rw [←bw.out] at O
    have hN:=hide O
    have bc:Hid ((Wk (HH L fr t left right) left right).L=L):=by
      show _=_
      rw [bw.out,Drw.kp_L]
      exact aJ.out
    clear O hK aJ I
    go_wp2_with fail
    refine aAg (g3:=y.heap.size) (g7:=g7) (e7:=E) (right:=right) hN.out bc.out hL ab.out (by simp) (by simp) (by simp) cj.out (by omega) ?_ ?_
    · repeat (first | refine Reg.NoQ.then ?_ | refine Reg.NoQ.inBlock ?_ | exact Reg.NoQ.body (fun _ _ h=>h) (fun _ h=>h))
    iterate 52 (intro _)
    intro cU cy aG
    have I:=(aG.blk (show(g5,161,#[.pointer (some ⟨gd,0,none⟩)])∈[(g9,210,#[.func (.func 150) #[] #[.pointer (some ⟨g5,0,none⟩),.pointer (some ⟨y.heap.size,0,none⟩)]]),(g7,3,#[.int .i64 (E:Int)]),(g5,161,#[.pointer (some ⟨gd,0,none⟩)]),(w.heap.size,27,pc),(y.heap.size,99,rc)] by simp)).cell
    have hZ:=hide aG
    clear aG hN bc
    go_wp2_with fail
    go_ret
    refine⟨gd,gm,5000,rfl,by decide,?_⟩
    exact(hZ.out.big (by omega)).sub (fun _ h=>by cases h) (fun _ h=>by cases h)
end Go.Proofs.YtfcfpoemojjglaaGreatDoor
