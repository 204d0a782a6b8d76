/-
  Part SI of a proof.
-/
import Derived.Test.YtfcfpoemojjglaaGreatDoorPA
import Derived.Test.YtfcfpoemojjglaaGreatDoorSF
import Derived.Test.YtfcfpoemojjglaaGreatDoorSG
import Derived.Test.YtfcfpoemojjglaaGreatDoorCE
set_option maxHeartbeats 16000000
set_option maxRecDepth 100000
set_option linter.unusedVariables false
set_option linter.unusedSimpArgs false
namespace Go.Proofs.YtfcfpoemojjglaaGreatDoor
open Go.RowKit
open K (Ah)
attribute [-go_sem] loadCellsFrom
set_option maxHeartbeats 16000000
set_option maxRecDepth 100000
@[go_sem] theorem YR {P:Program} {a:Addr} {m:Mode} {w:World} (f:Fn) (h cs:Array Value):(store a (.func f h cs) m).run P w=stored P w a (.func f h cs) m:=run_store P w a _ m rfl
theorem YB {w:World} {E rc:Array Value} {A:Option Addr} {L c:Nat} {fr t:Int} {left right:List Int} (bv:E.size=10) (bu:E[2]?=some (.slice A L c)) (hL:L≤60) (hr:MR w rc fr t left right):
    Calls Tryz.prog 104 #[.agg E,.agg rc] w (Ret fun v w'=>∃gd gm n,v=.pointer (some ⟨gd,0,none⟩)∧n≤10000∧DrS w w' gd gm (WP L fr t left right) n [] []):=by
  obtain⟨w1,cJ,a7,b3,-⟩:=Ae w E 27
  obtain⟨w2,cK,a8,M,-⟩:=Ae w1 rc 99
  have bg:=a7.trans (a8.mono a7.size)
  have aE:=b3.below a8
  have cc:=Ah aE bv
  have ab:=hide hr
  have bB:=hide (WR (w0:=w) (ls:=[(w.heap.size,27,E),(w1.heap.size,99,rc)]) bg bu hL (fun x hx=>by
    simp only [List.mem_cons,List.not_mem_nil,or_false] at hx
    rcases hx with rfl | rfl
    · exact aE
    · exact M))
  obtain⟨A6,c6,aS,aN⟩:=hr.left
  obtain⟨A7,c7,aT,aO⟩:=hr.right
  obtain⟨ml,ay⟩:∃m,m=left.length:=⟨_,rfl⟩
  obtain⟨mr,az⟩:∃m,m=right.length:=⟨_,rfl⟩
  rw [←ay] at aS
  rw [←az] at aT
  have bU:=hide aS
  have bV:=hide aT
  have cd:=hide ay
  have ce:=hide az
  have bQ:=hide aN
  have bR:=hide aO
  have cD:ml≤9223372036854775807∧mr≤9223372036854775807:=⟨by rw [ay]; exact aN.1,by rw [az]; exact aO.1⟩
  clear a7 a8 b3 M bg aE bu bv hr aS aT aN aO ay az
  go_enter Tryz.func104,Tryz.ntmps104
  go_wp2_with fail
  refine Calls.ret bB.out ?_
  rintro v w3 ⟨gd,gm,rfl,V,bT⟩
  have hD:=(show DrS w w3 gd gm ⟨L,[],[],[],[]⟩ 0 _ [] from⟨_,_,_,V,fun p hp=>by cases hp⟩)
  obtain⟨w4,cm,aF,bm⟩:=hD.pushE 161 #[.pointer (some ⟨gd,0,none⟩)]
  obtain⟨g5,bn⟩:=Wx bm
  rw [bn] at aF
  clear V bB cc bT hD bm
  go_wp2_with fail
  clear cm bn
  refine Yr aF.out List.mem_cons_self (by omega) ?_ ?_
  · repeat (first | refine Reg.NoQ.then ?_ | refine Reg.NoQ.inBlock ?_ | exact Reg.NoQ.body (fun _ _ h=>h) (fun _ h=>h))
  iterate 6 (intro _)
  intro w5 g7 Z C a4
  have I:=(a4.blk (g:=g5) (t:=161) (cs:=#[.pointer (some ⟨gd,0,none⟩)]) (by simp)).cell
  obtain⟨⟨bN,ag,bz⟩,aj⟩:=a4.begin (a:=(0,0,0)) (e:=Z) (by simp only [Drw.add_st]) (by simp)
  obtain⟨w6,bE,bi,-,-⟩:=Ae w5 #[.int .i64 (Z:Int)] 3
  rw [bE] at ag aj
  have bO:=hide aj
  have bj:=ag.cell
  have c8:=ag.frozen 2
  have cb:=ag.lt
  obtain⟨u6,bC⟩:∃u,bN[2]?=some u:=⟨_,Array.getElem?_eq_getElem bz⟩
  have bY:=(bj 2).trans bC
  have bW:=((a4.keep bi).blk (g:=g5) (t:=161) (cs:=#[.pointer (some ⟨gd,0,none⟩)]) (by simp)).cell
  have bX:=(aj.blk (g:=g5) (t:=161) (cs:=#[.pointer (some ⟨gd,0,none⟩)]) (by simp)).cell
  have c0:=(aj.blk (g:=g7) (t:=3) (cs:=#[.int .i64 (C:Int)]) (by simp)).cell
  clear aF a4 ag bj bC bz aj bi
  go_wp2_with fail
  refine Calls.ret (bO.out.free (L:=L) (s:=(5,0,0)) (es:=C) (by simp only [Drw.beg_L,Drw.add_L]) hL (by simp) (by omega)) ?_
  rintro v W ⟨rfl,b6⟩
  have hX:Hid (DrS w W gd gm (dr0 L) 200 [(g7,3,#[.int .i64 (C:Int)]),(g5,161,#[.pointer (some ⟨gd,0,none⟩)]),(w.heap.size,27,E),(w1.heap.size,99,rc)] [((5,0,0),C),((0,0,0),Z)]):=hide (b6.big (by omega))
  have bk:Hid ((dr0 L).L=L):=hide (by unfold dr0; simp only [Drw.free_L,Drw.beg_L,Drw.add_L])
  clear I bW bX c0 c8 cb bY b6 bE
  have I:=(hX.out.blk (g:=g5) (t:=161) (cs:=#[.pointer (some ⟨gd,0,none⟩)]) (by simp)).cell
  have bZ:=(hX.out.blk (g:=g7) (t:=3) (cs:=#[.int .i64 (C:Int)]) (by simp)).cell
  go_wp2_with fail
  refine Calls.ret (hX.out.state (3,0,0) (m:=1) (.inl ⟨rfl,rfl,rfl⟩) (by omega) rfl) ?_
  rintro v w8 ⟨e8,rfl,O⟩
  have af:=hide O
  clear O
  clear hX I bZ
  have I:=(af.out.blk (g:=g5) (t:=161) (cs:=#[.pointer (some ⟨gd,0,none⟩)]) (by simp)).cell
  have bx:=((af.out.blk (g:=w1.heap.size) (t:=99) (cs:=rc) (by simp)).cell 2).trans ab.out.fr
  have cf:=((af.out.blk (g:=w1.heap.size) (t:=99) (cs:=rc) (by simp)).cell 3).trans ab.out.tt
  go_wp2_with fail
  refine Calls.ret (af.out.move (a:=(0,0,0)) (b:=(3,0,0)) (by simp) (by simp) (by omega)) ?_
  rintro v W ⟨rfl,O⟩
  have J:=hide O
  clear O af I bx cf
  have bx:=((J.out.blk (g:=w1.heap.size) (t:=99) (cs:=rc) (by simp)).cell 2).trans ab.out.fr
  have cF:=((J.out.blk (g:=w1.heap.size) (t:=99) (cs:=rc) (by simp)).cell 14).trans bU.out
  have cG:=((J.out.blk (g:=w1.heap.size) (t:=99) (cs:=rc) (by simp)).cell 15).trans bV.out
  have au:=Qc (c:=c6) (x:=fr) (bQ.out.keep (w':=W) (fun p hp=>J.out.below.cell hp) (Nat.le_refl _))
  have aw:=Qc (c:=c7) (x:=fr) (bR.out.keep (w':=W) (fun p hp=>J.out.below.cell hp) (Nat.le_refl _))
  rw [←cd.out] at au
  rw [←ce.out] at aw
  obtain⟨b1,a7⟩:∃b,b=alw left fr:=⟨_,rfl⟩
  obtain⟨b2,a8⟩:∃b,b=alw right fr:=⟨_,rfl⟩
  rw [←a7] at au
  rw [←a8] at aw
  have aR:=hide a7
  have bh:=hide a8
  have av:=hide au
  have aQ:=hide aw
  clear a7 a8 au aw
  have aa:Hid (K4 L fr t left right=if b1&&b2 then (((dr0 L).add (3,0,0)).mov (0,0,0) fr t (3,0,0)).acc (3,0,0) else ((dr0 L).add (3,0,0)).mov (0,0,0) fr t (3,0,0)):=by
    show _=_
    rw [aR.out,bh.out]
    rfl
  have ax:Hid ((((dr0 L).add (3,0,0)).mov (0,0,0) fr t (3,0,0)).L=L):=hide (by rw [Drw.mov_L,Drw.add_L]; exact bk.out)
  clear bk
  cases b1 <;> cases b2
  all_goals
    first
    | (have ca:Hid ((true:Bool)=alw left fr):=aR
       have cB:Hid ((true:Bool)=alw right fr):=bh
       go_wp2_with fail
       refine av.out.mono ?_
       rintro e' w' ⟨rfl,rfl⟩
       go_wp2_with fail
       refine aQ.out.mono ?_
       rintro e' w' ⟨rfl,rfl⟩
       have I:=(J.out.blk (g:=g5) (t:=161) (cs:=#[.pointer (some ⟨gd,0,none⟩)]) (by simp)).cell
       have ak:=J.out.keep (Ap W)
       have c5:=(ak.blk (show(g5,161,#[.pointer (some ⟨gd,0,none⟩)])∈[(g7,3,#[.int .i64 (C:Int)]),(g5,161,#[.pointer (some ⟨gd,0,none⟩)]),(w.heap.size,27,E),(w1.heap.size,99,rc)] by simp)).cell
       obtain⟨AA,mA,cA,⟨cQ,cM,b4⟩,cE,ys,bt,br⟩:=ak.app (a:=(3,0,0)) (e:=e8) (by simp) (by omega)
       have c3:=b4.cell
       have bA:=ak.below.size
       have q5:=(((ak.push 3 #[.int .i64 (e8:Int)]).blk (List.mem_cons_of_mem _ (show(g5,161,#[.pointer (some ⟨gd,0,none⟩)])∈[(g7,3,#[.int .i64 (C:Int)]),(g5,161,#[.pointer (some ⟨gd,0,none⟩)]),(w.heap.size,27,E),(w1.heap.size,99,rc)] by simp))).cell 0)
       have bs:=hide br
       clear ak br b4
       go_wp2_with fail
       refine Reg.cC [0,0,2,6,14,30,0,64,254,511,1023,2047,4095] [0,1,2,3,4,5,6,7,8,9,10,11,12] ?_ (by kernel_rfl) (by repeat (first | refine Reg.NoQ.then ?_ | refine Reg.NoQ.inBlock ?_ | exact Reg.NoQ.body (fun _ _ h=>h) (fun _ h=>h)))
       refine Reg.rest_walk' [0,1,2,3,4,5,6,7] [8,9,10,11,12] rfl (by kernel_rfl) ?_
       intro Qf y
       go_wp2_with fail
       first | refine y _ _ ?_ | skip
       try clear y
       refine Reg.rest_act' 8 [9,10,11,12] [0] rfl (by kernel_rfl) ?_
       intro Qf y
       try simp only [gT,gS,gZ]
       refine BP (w:=W.drew) C9 rfl _ _ rfl w.heap.size (.slice AA mA cA) mA _ rfl bt [.int .i64 (e8:Int)] 1 rfl rfl (by simp [Value.oneCell']) (by omega) bA ?_
       intro g ae bK am hk al hg
       obtain⟨⟨cR,cO,M⟩,bq,a4⟩:=bs.out g ae bK am hk al
       have p5:=(bq _ (show(g5,161,#[.pointer (some ⟨gd,0,none⟩)])∈[(g7,3,#[.int .i64 (C:Int)]),(g5,161,#[.pointer (some ⟨gd,0,none⟩)]),(w.heap.size,27,E),(w1.heap.size,99,rc)] by simp)).cell 0
       have aD:=hide a4
       have aU:=M.cell
       have aW:=M.frozen 3
       have aX:=M.lt
       clear am hk al M bq a4 bt
       first | refine y _ _ ⟨?_,?_⟩ | refine⟨?_,?_⟩
       · intro z hz q G
         simp only [List.mem_cons,List.not_mem_nil,or_false] at hz
         subst hz
         injection G with G
         subst G
         exact Reg.same_load1 rfl rfl (q5) (p5) Tryz.underlying161 rfl
       try clear y
       refine Reg.rest_walk' [9,10,11] [12] rfl (by kernel_rfl) ?_
       intro Qf y
       go_wp2_with fail
       first | refine y _ _ ?_ | skip
       try clear y
       refine Reg.rest_act' 12 [] [] rfl (by kernel_rfl) ?_
       intro Qf y
       try simp only [gT,gS,gZ]
       go_wp2_with fail
       first | refine y _ _ ⟨Reg.nm,?_⟩ | refine⟨Reg.nm,?_⟩
       try clear y
       first | refine Reg.rest_end ?_ | skip
       clear c5 c3 bA bs aU aW aX
       obtain⟨W,cn⟩:∃wY,bK.setCell ⟨gd,3,none⟩ (.slice (some ⟨g,0,none⟩) (mA+1) ae)=wY:=⟨_,rfl⟩
       rw [cn] at aD
       have hB:Hid (DrS w W gd gm (K4 L fr t left right) 210 [(g7,3,#[.int .i64 (C:Int)]),(g5,161,#[.pointer (some ⟨gd,0,none⟩)]),(w.heap.size,27,E),(w1.heap.size,99,rc)] [((3,0,0),e8),((5,0,0),C),((0,0,0),Z)]):=by
         show DrS _ _ _ _ _ _ _ _
         rw [aa.out]
         exact aD.out.big (by omega)
       have ah:Hid ((K4 L fr t left right).L=L):=by
         show _=_
         rw [aa.out]
         exact ax.out
       clear J aD)
    | (have ca:Hid ((true:Bool)=alw left fr):=aR
       go_wp2_with fail
       refine av.out.mono ?_
       rintro e' w' ⟨rfl,rfl⟩
       go_wp2_with fail
       refine aQ.out.mono ?_
       rintro e' w' ⟨rfl,rfl⟩
       have hB:Hid (DrS w W gd gm (K4 L fr t left right) 210 [(g7,3,#[.int .i64 (C:Int)]),(g5,161,#[.pointer (some ⟨gd,0,none⟩)]),(w.heap.size,27,E),(w1.heap.size,99,rc)] [((3,0,0),e8),((5,0,0),C),((0,0,0),Z)]):=by
         show DrS _ _ _ _ _ _ _ _
         rw [aa.out]
         exact J.out.big (by omega)
       have ah:Hid ((K4 L fr t left right).L=L):=by
         show _=_
         rw [aa.out]
         exact ax.out
       clear J)
    | (go_wp2_with fail
       refine av.out.mono ?_
       rintro e' w' ⟨rfl,rfl⟩
       have hB:Hid (DrS w W gd gm (K4 L fr t left right) 210 [(g7,3,#[.int .i64 (C:Int)]),(g5,161,#[.pointer (some ⟨gd,0,none⟩)]),(w.heap.size,27,E),(w1.heap.size,99,rc)] [((3,0,0),e8),((5,0,0),C),((0,0,0),Z)]):=by
         show DrS _ _ _ _ _ _ _ _
         rw [aa.out]
         exact J.out.big (by omega)
       have ah:Hid ((K4 L fr t left right).L=L):=by
         show _=_
         rw [aa.out]
         exact ax.out
       clear J)
    clear ax aa av aQ
    obtain⟨cS,ck,hC,bo⟩:=hB.out.pushE 210 #[.func (.func 150) #[] #[.pointer (some ⟨g5,0,none⟩),.pointer (some ⟨w1.heap.size,0,none⟩)]]
    obtain⟨g9,bp⟩:=Wx bo
    rw [bp] at hC
    have c1:=(hC.out.blk List.mem_cons_self).cell
    have I:=(hC.out.blk (g:=g5) (t:=161) (cs:=#[.pointer (some ⟨gd,0,none⟩)]) (by simp)).cell
    clear hB bo
    go_wp2_with fail
    refine Calls.ret (hC.out.keep_ (L:=L) (F:=152) (caps:=[.pointer (some ⟨w1.heap.size,0,none⟩),.pointer (some ⟨g9,0,none⟩)]) (κ:=Sa left right) (f:=(3,0,0)) (ef:=e8) (S0:=[]) ah.out hL (by simp) (fun _ h=>by cases h) (fun _ _=>Xq (g5:=g5) ab.out (by simp) (by simp) (by simp)) (.inr (.inl ⟨_,_,rfl,by simp⟩)) (by omega)) ?_
    rintro v cT ⟨rfl,O⟩
    have hE:=hide O
    have b8:Hid (((K4 L fr t left right).kp (3,0,0) (Sa left right)).L=L):=by
      show _=_
      rw [Drw.kp_L]
      exact ah.out
    clear O hC ah I c1 ck bp
    go_wp2_with fail
    refine Yp (g3:=w1.heap.size) (g9:=g9) hE.out b8.out hL ab.out (by simp) (by simp) (by simp) (by omega) ?_ ?_
    · repeat (first | refine Reg.NoQ.then ?_ | refine Reg.NoQ.inBlock ?_ | exact Reg.NoQ.body (fun _ _ h=>h) (fun _ h=>h))
    iterate 12 (intro _)
    intro cq S' aG aM aL
    have cg:=hide (aM ((0,0,0),Z) (by simp))
    have ci:=hide (aM ((5,0,0),C) (by simp))
    obtain⟨U,aV⟩:∃U,Q1 ((K4 L fr t left right).kp (3,0,0) (Sa left right)) left 2=U:=⟨_,rfl⟩
    have bw:Hid (Ws (K4 L fr t left right) left right=((U.add (4,1,0)).acc (4,1,0)).kp (0,0,0) (Wu left right)):=by
      show _=_
      rw [←aV]
      rfl
    rw [aV] at aG aL
    have bP:=hide aL
    clear hE b8 aM aV aL
    obtain⟨vS,vA,vM,V,be⟩:=aG.keep (Ap cq)
    obtain⟨AA,cA,cj⟩:=AH V.ac
    subst cj
    have cH:U.ac.length≤1000000:=by
      have:=V.sz
      unfold Drw.size at this
      omega
    have c4:=V.bd.cell
    have I:=(V.blk (show(g5,161,#[.pointer (some ⟨gd,0,none⟩)])∈[(g9,210,#[.func (.func 150) #[] #[.pointer (some ⟨g5,0,none⟩),.pointer (some ⟨w1.heap.size,0,none⟩)]]),(g7,3,#[.int .i64 (C:Int)]),(g5,161,#[.pointer (some ⟨gd,0,none⟩)]),(w.heap.size,27,E),(w1.heap.size,99,rc)] by simp)).cell
    have aY:=V.push 3 #[.int .i64 4,.int .i64 1]
    have q5:=(aY.blk (List.mem_cons_of_mem _ (show(g5,161,#[.pointer (some ⟨gd,0,none⟩)])∈[(g9,210,#[.func (.func 150) #[] #[.pointer (some ⟨g5,0,none⟩),.pointer (some ⟨w1.heap.size,0,none⟩)]]),(g7,3,#[.int .i64 (C:Int)]),(g5,161,#[.pointer (some ⟨gd,0,none⟩)]),(w.heap.size,27,E),(w1.heap.size,99,rc)] by simp))).cell 0
    have qA:=aY.bd.cell 3
    have ba:=hide V
    have bf:=hide be
    clear aG V aY be
    go_wp2_with fail
    refine Reg.cC [0,0,2,6,14,30,0,0,192,448,1022,2047,4095,8191,16383] [0,1,2,3,4,5,6,7,8,9,10,11,12,13,14] ?_ (by kernel_rfl) (by repeat (first | refine Reg.NoQ.then ?_ | refine Reg.NoQ.inBlock ?_ | exact Reg.NoQ.body (fun _ _ h=>h) (fun _ h=>h)))
    refine Reg.rest_walk' [0,1,2,3,4,5,6,7] [8,9,10,11,12,13,14] rfl (by kernel_rfl) ?_
    intro Qf y
    go_wp2_with fail
    first | refine y _ _ ?_ | skip
    try clear y
    refine Reg.rest_act' 8 [9,10,11,12,13,14] [0,1,5] rfl (by kernel_rfl) ?_
    intro Qf y
    try simp only [gT,gS,gZ]
    go_wp2_with fail
    refine Calls.ret (Wy (c:=2) (4,1,0) ba.out (m:=2) (.inr (.inl ⟨rfl,rfl⟩)) (by omega) rfl) ?_
    rintro v cr ⟨hv,a5⟩
    obtain⟨b0,bl⟩:∃e:Nat,Hid (AR (U.add (4,1,0)) (4,1,0)=.int .i64 (e:Int)):=⟨_,rfl⟩
    rw [bl.out] at hv
    subst hv
    have p5:=(a5.blk (show(g5,161,#[.pointer (some ⟨gd,0,none⟩)])∈[(g9,210,#[.func (.func 150) #[] #[.pointer (some ⟨g5,0,none⟩),.pointer (some ⟨w1.heap.size,0,none⟩)]]),(g7,3,#[.int .i64 (C:Int)]),(g5,161,#[.pointer (some ⟨gd,0,none⟩)]),(w.heap.size,27,E),(w1.heap.size,99,rc)] by simp)).cell 0
    have pA:=a5.bd.cell 3
    have aP:=a5.ac
    rw [Drw.add_ac] at aP
    have ch:=a5.below.size
    have bI:=((a5.push 3 #[.int .i64 (b0:Int)]).blk (List.mem_cons_of_mem _ (show(g5,161,#[.pointer (some ⟨gd,0,none⟩)])∈[(g9,210,#[.func (.func 150) #[] #[.pointer (some ⟨g5,0,none⟩),.pointer (some ⟨w1.heap.size,0,none⟩)]]),(g7,3,#[.int .i64 (C:Int)]),(g5,161,#[.pointer (some ⟨gd,0,none⟩)]),(w.heap.size,27,E),(w1.heap.size,99,rc)] by simp))).cell 0
    have a6:=hide a5
    clear a5 c4
    go_wp2_with fail
    first | refine y _ _ ⟨?_,?_⟩ | refine⟨?_,?_⟩
    · intro z hz q G
      simp only [List.mem_cons,List.not_mem_nil,or_false] at hz
      rcases hz with rfl | rfl | rfl
      · injection G with G
        subst G
        exact Reg.same_load1 rfl rfl (q5) (p5) Tryz.underlying161 rfl
      · injection G with G
        subst G
        exact Reg.same_load1 rfl rfl (q5) (p5) Tryz.underlying161 rfl
      · injection G with G
        subst G
        exact Reg.same_load1 rfl rfl (qA) (pA) Tryz.underlying24 rfl
    try clear y
    clear q5 p5 qA pA
    refine Reg.rest_walk' [9] [10,11,12,13,14] rfl (by kernel_rfl) ?_
    intro Qf y
    go_wp2_with fail
    first | refine y _ _ ?_ | skip
    try clear y
    refine Reg.rest_act' 10 [11,12,13,14] [0] rfl (by kernel_rfl) ?_
    intro Qf y
    try simp only [gT,gS,gZ]
    refine BP (w:=cr) C9 rfl _ _ rfl w.heap.size (.slice AA U.ac.length cA) U.ac.length _ rfl aP [.int .i64 (b0:Int)] 1 rfl rfl (by simp [Value.oneCell']) (by omega) ch ?_
    intro g ae ct am hk al hg
    have hF:=a6.out.addA (a:=(4,1,0)) (vA':=.slice (some ⟨g,0,none⟩) (U.ac.length+1) ae) (Drw.add_mem _ _) hk (by rw [Drw.add_ac,bl.out]; exact am) al
    have bG:=((a6.out.oth _ (show(g5,161,#[.pointer (some ⟨gd,0,none⟩)])∈[(g9,210,#[.func (.func 150) #[] #[.pointer (some ⟨g5,0,none⟩),.pointer (some ⟨w1.heap.size,0,none⟩)]]),(g7,3,#[.int .i64 (C:Int)]),(g5,161,#[.pointer (some ⟨gd,0,none⟩)]),(w.heap.size,27,E),(w1.heap.size,99,rc)] by simp)).1.kept hk (a6.out.oth _ (show(g5,161,#[.pointer (some ⟨gd,0,none⟩)])∈[(g9,210,#[.func (.func 150) #[] #[.pointer (some ⟨g5,0,none⟩),.pointer (some ⟨w1.heap.size,0,none⟩)]]),(g7,3,#[.int .i64 (C:Int)]),(g5,161,#[.pointer (some ⟨gd,0,none⟩)]),(w.heap.size,27,E),(w1.heap.size,99,rc)] by simp)).2.2.2.1).cell 0
    have M:=a6.out.bd.kept hk (Aw a6.out.ac a6.out.bd (by decide))
    have aU:=M.cell
    have aW:=M.frozen 3
    have aX:=M.lt
    have hK:Hid (DrS w (ct.setCell ⟨gd,3,none⟩ (.slice (some ⟨g,0,none⟩) (U.ac.length+1) ae)) gd gm ((U.add (4,1,0)).acc (4,1,0)) 600 [(g9,210,#[.func (.func 150) #[] #[.pointer (some ⟨g5,0,none⟩),.pointer (some ⟨w1.heap.size,0,none⟩)]]),(g7,3,#[.int .i64 (C:Int)]),(g5,161,#[.pointer (some ⟨gd,0,none⟩)]),(w.heap.size,27,E),(w1.heap.size,99,rc)] S'):=hide (DrS.big (n:=_) ⟨_,_,_,hF,fun p hp=>(bf.out.add (4,1,0)) p hp⟩ (by omega))
    clear am hk al hF M aP a6 ba bf
    first | refine y _ _ ⟨?_,?_⟩ | refine⟨?_,?_⟩
    · intro z hz q G
      simp only [List.mem_cons,List.not_mem_nil,or_false] at hz
      subst hz
      injection G with G
      subst G
      exact Reg.same_load1 rfl rfl (bI) (bG) Tryz.underlying161 rfl
    try clear y
    clear bI bG
    refine Reg.rest_walk' [11,12,13] [14] rfl (by kernel_rfl) ?_
    intro Qf y
    go_wp2_with fail
    first | refine y _ _ ?_ | skip
    try clear y
    refine Reg.rest_act' 14 [] [] rfl (by kernel_rfl) ?_
    intro Qf y
    try simp only [gT,gS,gZ]
    go_wp2_with fail
    first | refine y _ _ ⟨Reg.nm,?_⟩ | refine⟨Reg.nm,?_⟩
    try clear y
    first | refine Reg.rest_end ?_ | skip
    clear aU aW aX I
    have I:=(hK.out.blk (g:=g5) (t:=161) (cs:=#[.pointer (some ⟨gd,0,none⟩)]) (by simp)).cell
    have aK:Hid (((U.add (4,1,0)).acc (4,1,0)).L=L):=hide (by rw [Drw.acc_L,Drw.add_L]; exact bP.out)
    go_wp2_with fail
    refine Calls.ret (hK.out.keep_ (L:=L) (F:=153) (caps:=[.pointer (some ⟨g5,0,none⟩),.pointer (some ⟨w1.heap.size,0,none⟩)]) (κ:=Wu left right) (f:=(0,0,0)) (ef:=Z) (S0:=[]) aK.out hL cg.out (fun _ h=>by cases h) (fun _ _=>Xp ab.out (by simp) (by simp)) (.inr (.inl ⟨_,_,rfl,by simp⟩)) (by omega)) ?_
    rintro v cU ⟨rfl,O⟩
    rw [←bw.out] at O
    have hN:=hide O
    have bc:Hid ((Ws (K4 L fr t left right) left right).L=L):=by
      show _=_
      rw [bw.out,Drw.kp_L]
      exact aK.out
    clear O hK aK I
    go_wp2_with fail
    refine Yq (g3:=w1.heap.size) (g7:=g7) (e7:=C) (right:=right) hN.out bc.out hL ab.out (by simp) (by simp) (by simp) ci.out (by omega) ?_ ?_
    · repeat (first | refine Reg.NoQ.then ?_ | refine Reg.NoQ.inBlock ?_ | exact Reg.NoQ.body (fun _ _ h=>h) (fun _ h=>h))
    iterate 52 (intro _)
    intro cV cz aH
    have I:=(aH.blk (show(g5,161,#[.pointer (some ⟨gd,0,none⟩)])∈[(g9,210,#[.func (.func 150) #[] #[.pointer (some ⟨g5,0,none⟩),.pointer (some ⟨w1.heap.size,0,none⟩)]]),(g7,3,#[.int .i64 (C:Int)]),(g5,161,#[.pointer (some ⟨gd,0,none⟩)]),(w.heap.size,27,E),(w1.heap.size,99,rc)] by simp)).cell
    have hZ:=hide aH
    clear aH hN bc
    go_wp2_with fail
    go_ret
    refine⟨gd,gm,5000,rfl,by decide,?_⟩
    exact(hZ.out.big (by omega)).sub (fun _ h=>by cases h) (fun _ h=>by cases h)
end Go.Proofs.YtfcfpoemojjglaaGreatDoor
