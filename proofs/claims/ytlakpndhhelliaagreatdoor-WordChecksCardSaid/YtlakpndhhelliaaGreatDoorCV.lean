/-
  Part CV of a proof.
-/
import Derived.Test.YtlakpndhhelliaaGreatDoorPA
import Derived.Test.YtlakpndhhelliaaGreatDoorCJ
set_option maxHeartbeats 16000000
set_option maxRecDepth 100000
set_option linter.unusedVariables false
set_option linter.unusedSimpArgs false
namespace Go.Proofs.YtlakpndhhelliaaGreatDoor.K
open Go.RowKit
attribute [-go_sem] loadCellsFrom storeCells
theorem Lh {w:World} {cs ds:List Value} {p:Ao} {q:Bd} (h:Ax w w.heap.size cs p) (U:BE w w.heap.size ds q) (J:p.Small) (F:q.Small) (hT:AL w) (aB:Hid (At Ab p=0)) (aC:Hid (Ab q.name=true)) (V:Hid (q.kind=1)) (hg:q.goal.length=0) {W:Int} (ak:Hid (Aa q.start (p.states.length:Int)=W)) (bo:(W != 0)=true):
  Calls Tryz.prog 12 #[.agg cs.toArray,.agg ds.toArray] w (Ret fun v w'=>v=.int .i64 (W)∧Below w.heap.size w w'):=by
 obtain⟨A1,c1,A2,c2,A3,c3,A4,c4,A5,c5,A6,c6,A7,c7,Z,bB,bC,aF,bD,bE,bF,bG,aG,bH,bI,h1,h2,h3,h4,h5,h6,h7,am⟩:=h.cells
 obtain⟨B1,d1,B2,d2,B3,d3,B4,d4,aW,bJ,aX,aY,aZ,b0,b1,k1,k2,k3,k4⟩:=U.cells
 have bK:=F.name
 have b4:=F.start
 have b5:=F.bad
 have b6:=F.adj
 have b7:=F.goal
 have b8:=J.states
 have b9:=J.initial
 have ba:=hide J
 have bb:=hide h5
 have bc:=hide k1
 have bd:=hide k2
 have be:=hide k3
 have bf:=hide k4
 obtain⟨w1,bL,M,ar,V⟩:=Ag w cs.toArray 27
 obtain⟨w2,bM,a2,au,bg⟩:=Ag w1 ds.toArray 30
 have E:=hide (M.trans (a2.mono M.size))
 have bN:=M.size
 have G:=hide (show PQX w2 w.heap.size w1.heap.size cs.toArray ds.toArray p q from⟨h.keep (fun _ z=>E.out.cell z) E.out.size,U.keep (fun _ z=>E.out.cell z) E.out.size,ar.below a2,au,hT.below E.out⟩)
 generalize bh:cs.toArray=pc at*
 generalize bi:ds.toArray=qc at*
 obtain⟨ns,a3⟩:∃n,n=p.states.length:=⟨_,rfl⟩
 obtain⟨ni,a4⟩:∃n,n=p.initial.length:=⟨_,rfl⟩
 obtain⟨nt,a5⟩:∃n,n=q.start.length:=⟨_,rfl⟩
 obtain⟨nb,a6⟩:∃n,n=q.bad.length:=⟨_,rfl⟩
 obtain⟨na,a7⟩:∃n,n=q.adj.length:=⟨_,rfl⟩
 obtain⟨ng,a9⟩:∃n,n=q.goal.length:=⟨_,rfl⟩
 obtain⟨kq,aa⟩:∃n,n=q.kind:=⟨_,rfl⟩
 have C:=hide (show ns=p.states.length∧ni=p.initial.length∧nt=q.start.length∧nb=q.bad.length∧na=q.adj.length∧ng=q.goal.length∧kq=q.kind from⟨a3,a4,a5,a6,a7,a9,aa⟩)
 rw [←a3] at aF b8
 rw [←a4] at aG b9
 rw [←a5] at aY b4
 rw [←a6] at aZ b5
 rw [←a7] at b0 b6
 rw [←a9] at b1 b7
 rw [←aa] at aX
 clear a3 a4 a5 a6 a7 a9 aa
 have ab:=hide Z
 have bj:∀f,Hid (PQX f w.heap.size w1.heap.size pc qc p q)→Calls Tryz.prog 22 #[.agg pc] f (Ret fun v w'=>v=.int .i64 (At Ab p)∧Below f.heap.size f w'):=fun f y=>Dt y.out.pr ba.out y.out.tab
 have bk:∀f,Below w.heap.size w f→Calls Tryz.prog 24 #[.slice B1 nt d1,.int .i64 (ns:Int)] f (Ret fun r w'=>r=.int .i64 (Aa q.start (ns:Int))∧Below f.heap.size f w'):=fun f y=>by
  rw [C.out.2.2.1]
  exact Bw (bc.out.keep (fun _ z=>y.cell z) y.size)
 have bO:∀f,Below w.heap.size w f→Calls Tryz.prog 24 #[.slice B4 ng d4,.int .i64 (ns:Int)] f (Ret fun r w'=>r=.int .i64 (Aa q.goal (ns:Int))∧Below f.heap.size f w'):=fun f y=>by
  rw [C.out.2.2.2.2.2.1]
  exact Bw (bf.out.keep (fun _ z=>y.cell z) y.size)
 have bP:∀f x,Below w.heap.size w f→Calls Tryz.prog 25 #[.slice A5 ni c5,.int .i64 x] f fun r w'=>r=.returned (.bool (decide (x∈p.initial)))∧f=w':=fun f x y=>by
  rw [C.out.2.1]
  exact Dx (bb.out.keep (fun _ z=>y.cell z) y.size)
 have bQ:∀f,Below w.heap.size w f→Calls Tryz.prog 28 #[.slice B2 nb d2,.int .i64 (ns:Int)] f (Ret fun r w'=>r=.int .i64 (Ah (Az (ns:Int)) q.bad)∧Below f.heap.size f w'):=fun f y=>by
  rw [C.out.2.2.2.1]
  exact DG (bd.out.keep (fun _ z=>y.cell z) (fun _ _ h=>h.keep (fun _ z=>y.cell z) y.size) y.size)
 have bR:∀f,Hid (PQX f w.heap.size w1.heap.size pc qc p q)→Below w.heap.size w f→Calls Tryz.prog 29 #[.agg pc,.slice B3 na d3] f (Ret fun r w'=>r=.int .i64 (Bb p.topo (ns:Int) q.adj)∧Below f.heap.size f w'):=fun f bl y=>by
  rw [C.out.2.2.2.2.1,C.out.1]
  exact DH bl.out.pr (be.out.keep (fun _ z=>y.cell z) y.size)
 have bS:=G.out.b2.cell
 have bT:=G.out.b3.cell
 have bU:=Am G.out.b2 Z
 have bm:=am
 clear h1 h2 h3 h4 h5 h6 h7 k1 k2 k3 k4 h U J F M a2 ar au V bg bh bi hT Z aW am bm
 rw [←C.out.1] at ak
 rw [←C.out.2.2.2.2.2.1] at hg
 have bV:¬(0:Int)<(ng:Int):=by omega
 clear hg
 have bW:(kq==1)=true:=by rw [C.out.2.2.2.2.2.2,V.out]; rfl
 go_enter Tryz.func12,Tryz.ntmps12
 go_wp2_with (first
  | (go_at_call 22; refine Calls.ret (bj _ G) ?_; rintro v w3 ⟨rfl,ad⟩; rw [aB.out]; have I:=hide (G.out.at ad); have bY:=I.out.b2.cell; have bZ:=I.out.b3.cell; have c0:=Am I.out.b2 ab.out; have aA:=hide (E.out.trans (ad.mono E.out.size)); clear ad)
  | (go_at_call 23; refine Calls.ret (CG q.name _ (by omega) I.out.tab) ?_; rintro v w4 ⟨rfl,ae⟩; rw [aC.out]; have O:=hide (I.out.at ae); have c9:=O.out.b2.cell; have ca:=O.out.b3.cell; have cb:=Am O.out.b2 ab.out; have af:=hide (aA.out.trans (ae.mono aA.out.size)); clear ae)
  | (go_at_call 24; refine Calls.ret (bk _ af.out) ?_; rintro v w5 ⟨rfl,ag⟩; rw [ak.out]; have ah:=hide (O.out.at ag); have cd:=ah.out.b2.cell; have ce:=ah.out.b3.cell; have cf:=Am ah.out.b2 ab.out; have bn:=hide (af.out.trans (ag.mono af.out.size)); clear ag))
 go_ret
 exact⟨rfl,bn.out⟩
theorem Q8 {w:World} {cs ds:List Value} {p:Ao} {q:Bd} (h:Ax w w.heap.size cs p) (h':BE w w.heap.size ds q) (af:p.Small) (a5:q.Small) (hT:AL w) (aT:Hid (At Ab p=0)) (aU:Hid (Ab q.name=true)) (ag:Hid (q.kind=1)) (hg:q.goal.length=0) (am:Hid (Aa q.start (p.states.length:Int)=0)):
  Calls Tryz.prog 12 #[.agg cs.toArray,.agg ds.toArray] w (Ret fun v w'=>v=.int .i64 (AJ Ab p q)∧Below w.heap.size w w'):=by
 obtain⟨A1,c1,A2,c2,A3,c3,A4,c4,A5,c5,A6,c6,A7,c7,an,cA,cB,bl,cD,cE,cF,cG,bm,cH,cJ,h1,h2,h3,h4,h5,h6,h7,aX⟩:=h.cells
 obtain⟨B1,d1,B2,d2,B3,d3,B4,d4,bA,cK,bB,bC,bD,bE,bF,k1,k2,k3,k4⟩:=h'.cells
 have cL:=a5.name
 have bG:=a5.start
 have bH:=a5.bad
 have bI:=a5.adj
 have bJ:=a5.goal
 have bK:=af.states
 have bL:=af.initial
 have bM:=hide af
 have bN:=hide h5
 have b4:=hide k1
 have bO:=hide k2
 have bP:=hide k3
 have bQ:=hide k4
 obtain⟨w1,cM,ah,b5,ag⟩:=Ag w cs.toArray 27
 obtain⟨w2,cO,ap,b6,bR⟩:=Ag w1 ds.toArray 30
 have U:=hide (ah.trans (ap.mono ah.size))
 have cQ:=ah.size
 have a7:=hide (show PQX w2 w.heap.size w1.heap.size cs.toArray ds.toArray p q from⟨h.keep (fun _ E=>U.out.cell E) U.out.size,h'.keep (fun _ E=>U.out.cell E) U.out.size,b5.below ap,b6,hT.below U.out⟩)
 generalize bS:cs.toArray=pc at*
 generalize bT:ds.toArray=qc at*
 obtain⟨ns,aq⟩:∃n,n=p.states.length:=⟨_,rfl⟩
 obtain⟨ni,ar⟩:∃n,n=p.initial.length:=⟨_,rfl⟩
 obtain⟨nt,au⟩:∃n,n=q.start.length:=⟨_,rfl⟩
 obtain⟨nb,aw⟩:∃n,n=q.bad.length:=⟨_,rfl⟩
 obtain⟨na,ax⟩:∃n,n=q.adj.length:=⟨_,rfl⟩
 obtain⟨ng,az⟩:∃n,n=q.goal.length:=⟨_,rfl⟩
 obtain⟨kq,aA⟩:∃n,n=q.kind:=⟨_,rfl⟩
 have C:=hide (show ns=p.states.length∧ni=p.initial.length∧nt=q.start.length∧nb=q.bad.length∧na=q.adj.length∧ng=q.goal.length∧kq=q.kind from⟨aq,ar,au,aw,ax,az,aA⟩)
 rw [←aq] at bl bK
 rw [←ar] at bm bL
 rw [←au] at bC bG
 rw [←aw] at bD bH
 rw [←ax] at bE bI
 rw [←az] at bF bJ
 rw [←aA] at bB
 clear aq ar au aw ax az aA
 have M:=hide an
 have bU:∀y,Hid (PQX y w.heap.size w1.heap.size pc qc p q)→Calls Tryz.prog 22 #[.agg pc] y (Ret fun v w'=>v=.int .i64 (At Ab p)∧Below y.heap.size y w'):=fun y z=>Dt z.out.pr bM.out z.out.tab
 have bV:∀y,Below w.heap.size w y→Calls Tryz.prog 24 #[.slice B1 nt d1,.int .i64 (ns:Int)] y (Ret fun r w'=>r=.int .i64 (Aa q.start (ns:Int))∧Below y.heap.size y w'):=fun y z=>by
  rw [C.out.2.2.1]
  exact Bw (b4.out.keep (fun _ E=>z.cell E) z.size)
 have cR:∀y,Below w.heap.size w y→Calls Tryz.prog 24 #[.slice B4 ng d4,.int .i64 (ns:Int)] y (Ret fun r w'=>r=.int .i64 (Aa q.goal (ns:Int))∧Below y.heap.size y w'):=fun y z=>by
  rw [C.out.2.2.2.2.2.1]
  exact Bw (bQ.out.keep (fun _ E=>z.cell E) z.size)
 have bW:∀y x,Below w.heap.size w y→Calls Tryz.prog 25 #[.slice A5 ni c5,.int .i64 x] y fun r w'=>r=.returned (.bool (decide (x∈p.initial)))∧y=w':=fun y x z=>by
  rw [C.out.2.1]
  exact Dx (bN.out.keep (fun _ E=>z.cell E) z.size)
 have ba:∀y,Below w.heap.size w y→Calls Tryz.prog 28 #[.slice B2 nb d2,.int .i64 (ns:Int)] y (Ret fun r w'=>r=.int .i64 (Ah (Az (ns:Int)) q.bad)∧Below y.heap.size y w'):=fun y z=>by
  rw [C.out.2.2.2.1]
  exact DG (bO.out.keep (fun _ E=>z.cell E) (fun _ _ h=>h.keep (fun _ E=>z.cell E) z.size) z.size)
 have bb:∀y,Hid (PQX y w.heap.size w1.heap.size pc qc p q)→Below w.heap.size w y→Calls Tryz.prog 29 #[.agg pc,.slice B3 na d3] y (Ret fun r w'=>r=.int .i64 (Bb p.topo (ns:Int) q.adj)∧Below y.heap.size y w'):=fun y bX z=>by
  rw [C.out.2.2.2.2.1,C.out.1]
  exact DH bX.out.pr (bP.out.keep (fun _ E=>z.cell E) z.size)
 have cS:=a7.out.b2.cell
 have cT:=a7.out.b3.cell
 have cU:=Am a7.out.b2 an
 have bY:=aX
 clear h1 h2 h3 h4 h5 h6 h7 k1 k2 k3 k4 h h' af a5 ah ap b5 b6 ag bR bS bT hT an bA aX bY
 have hR:=hide (show AJ Ab p q=orE (Ac (!Cn p q) 5) (De p q) from by
  rw [G5 aT.out aU.out ag.out hg,am.out]
  rfl)
 rw [←C.out.1] at am
 rw [←C.out.2.2.2.2.2.1] at hg
 have cV:¬(0:Int)<(ng:Int):=by omega
 clear hg
 have cW:(kq==1)=true:=by rw [C.out.2.2.2.2.2.2,ag.out]; rfl
 go_enter Tryz.func12,Tryz.ntmps12
 go_wp2_with (first
  | (go_at_call 22; refine Calls.ret (bU _ a7) ?_; rintro v w3 ⟨rfl,aB⟩; rw [aT.out]; have a9:=hide (a7.out.at aB); have cY:=a9.out.b2.cell; have cZ:=a9.out.b3.cell; have d5:=Am a9.out.b2 M.out; have bd:=hide (U.out.trans (aB.mono U.out.size)); clear aB)
  | (go_at_call 23; refine Calls.ret (CG q.name _ (by omega) a9.out.tab) ?_; rintro v w4 ⟨rfl,aC⟩; rw [aU.out]; have ai:=hide (a9.out.at aC); have d7:=ai.out.b2.cell; have d8:=ai.out.b3.cell; have d9:=Am ai.out.b2 M.out; have aD:=hide (bd.out.trans (aC.mono bd.out.size)); clear aC)
  | (go_at_call 24; refine Calls.ret (bV _ aD.out) ?_; rintro v w5 ⟨rfl,aE⟩; rw [am.out]; have aj:=hide (ai.out.at aE); have da:=aj.out.b2.cell; have db:=aj.out.b3.cell; have dc:=Am aj.out.b2 M.out; have bf:=hide (aD.out.trans (aE.mono aD.out.size)); clear aE))
 go_loopw [67] (fun ii wr=>∃(k:Nat),ii=.int .i64 (k:Int)∧k≤nt∧Hid (Below w5.heap.size w5 wr)∧Hid ((q.start.take k).all (fun x=>decide (x∈p.initial))=true)) (fun ii _=>nt - (intOf ii).toNat)
 case atStart=>exact⟨0,rfl,Nat.zero_le _,Below.refl _ _,by show _=_; simp⟩
 case round=>
  obtain⟨k,rfl,hk,aG,hE⟩:=hrel
  have aa:=hide (aj.out.at aG.out)
  have de:=aa.out.b2.cell
  have df:=aa.out.b3.cell
  have dg:=Am aa.out.b2 M.out
  have V:=hide (bf.out.trans (aG.out.mono bf.out.size))
  by_cases dh:k<nt
  ·obtain⟨b,di,x,hA,dj,z,W⟩:=(b4.out.keep (w':=wr) (B':=w.heap.size) (fun _ E=>V.out.cell E) (Nat.le_refl _)).at (k:=k) (by have:=C.out.2.2.1; omega)
   have d0:=W 0 (by omega)
   simp only [Nat.add_zero,Nat.mul_one,Ai] at d0
   have bg:=hide z
   subst hA
   clear W z
   have W:=hide (bW _ x V.out)
   cases hv:decide (x∈p.initial)
   ·have c8:=hide (show Cn p q=false from by
     unfold Cn
     rw [List.all_eq_false]
     exact⟨x,List.mem_of_getElem? bg.out,by rw [hv]; decide⟩)
    rw [hv] at W
    clear hv
    go_wp2_with (go_at_call 25; refine W.out.mono ?_; rintro r w' ⟨rfl,rfl⟩)
    go_ret
    exact⟨congrArg (Value.int .i64) (hR.out.trans (by rw [c8.out]; rfl)).symm,V.out⟩
   ·have c9:=hide (BP (p:=fun x=>decide (x∈p.initial)) bg.out hE.out hv)
    rw [hv] at W
    clear hv
    go_wp2_with (go_at_call 25; refine W.out.mono ?_; rintro r w' ⟨rfl,rfl⟩)
    exact⟨⟨k+1,by go_num,by omega,aG.out,c9.out⟩,by simp [intOf]; omega⟩
  ·have ca:=hide (show Cn p q=true from by
    have h1:=C.out.2.2.1
    have h2:=hE.out
    rwa [List.take_of_length_le (by omega)] at h2)
   have bh:=hide (show AJ Ab p q=De p q from by rw [hR.out,ca.out]; rfl)
   clear hE
   cases bi:((nb:Int)==0)
   case true=>
    go_wp2_with fail
    have O:=hide (aa.out.at (Ap wr))
    have cb:=O.out.b2.cell
    have cc:=O.out.b3.cell
    have cd:=Am O.out.b2 M.out
    have Z:=hide (V.out.trans ((Ap wr).mono V.out.size))
    refine Reg.cI [0,1,3,7,15,31,63,127,255,511,1023,0,2048,6144,14336,32767,0,65536,0,524287,0,0,2097152,8388607,16777215,33554431,67108863] [0,1,2,3,4,5,6,7,8,9,11,12,13,14,16,17,18,20,21,22,10,15,19,23,24,25,26] ?_
    refine Reg.wI [0,1,2,3,4,5,6,7,8,9,11,12,13,14,16,17,18,20,21,22] [10,15,19,23,24,25,26] rfl fun Qf f=>?_
    go_wp2_with fail
    first | refine f _ _ ⟨rfl,?_⟩ | refine⟨rfl,?_⟩ | refine f _ _ ⟨by simp [Reg.fineT,Reg.intOp,Region.wanted,yielded,Reg.intFine,Reg.isInt,Act.eval],?_⟩
    try clear f
    refine Reg.aI 10 [15,19,23,24,25,26] [12,17,20,22] rfl fun Qf f=>?_
    simp only [gT,gS,gZ]
    go_wp2_with (go_at_call 27; refine Calls.ret (Dn _ _ _) ?_; rintro r w' ⟨⟨F,rfl,aJ⟩,rfl⟩)
    first | refine f _ _ ⟨Reg.same_below (Below.refl _ _) [12,17,20,22] rfl,?_⟩ | refine⟨Reg.same_below (Below.refl _ _) [12,17,20,22] rfl,?_⟩
    try clear f
    refine Reg.aI 15 [19,23,24,25,26] [17,20,22] rfl fun Qf f=>?_
    simp only [gT,gS,gZ]
    go_wp2_with (go_at_call 27; refine Calls.ret (Dn _ _ _) ?_; rintro r w' ⟨⟨G,rfl,aK⟩,rfl⟩)
    first | refine f _ _ ⟨Reg.same_below (Below.refl _ _) [17,20,22] rfl,?_⟩ | refine⟨Reg.same_below (Below.refl _ _) [17,20,22] rfl,?_⟩
    try clear f
    refine Reg.aI 19 [23,24,25,26] [20,22] rfl fun Qf f=>?_
    simp only [gT,gS,gZ]
    go_wp2_with (go_at_call 28; refine Calls.ret (ba _ Z.out) ?_; rintro v w7 ⟨rfl,I⟩)
    first | refine f _ _ ⟨Reg.same_below (I) [20,22] rfl,?_⟩ | refine⟨Reg.same_below (I) [20,22] rfl,?_⟩
    try clear f
    have J:=hide (O.out.at I)
    have cf:=J.out.b2.cell
    have cg:=J.out.b3.cell
    have ch:=Am J.out.b2 M.out
    have a2:=hide (Z.out.trans (I.mono Z.out.size))
    clear I
    refine Reg.aI 23 [24,25,26] [] rfl fun Qf f=>?_
    simp only [gT,gS,gZ]
    go_wp2_with (go_at_call 29; refine Calls.ret (bb _ J a2.out) ?_; rintro v w8 ⟨rfl,a3⟩)
    first | refine f _ _ ⟨Reg.nm,?_⟩ | refine⟨Reg.nm,?_⟩
    try clear f
    have a4:=hide (J.out.at a3)
    have ci:=a4.out.b2.cell
    have cj:=a4.out.b3.cell
    have ck:=Am a4.out.b2 M.out
    have ab:=hide (a2.out.trans (a3.mono a2.out.size))
    clear a3
    have aM:=hide (show De p q=Ah id [F,G,Ah (Az (ns:Int)) q.bad,Bb p.topo (ns:Int) q.adj] from by
     unfold De
     simp only [Ah,id_eq,Be]
     have e1:F=Ac (q.bad.isEmpty&&q.adj.isEmpty) 1:=by
      rw [aJ.out]
      congr 1
      rw [Bn q.bad,Bn q.adj,←C.out.2.2.2.1,←C.out.2.2.2.2.1,←D7]
      rw [bi]
      simp only [D7,Bool.true_and]
     have e2:G=Ac (decide (3<q.bad.length)) 4:=by
      rw [aK.out]
      congr 1
      rw [←C.out.2.2.2.1]
      first
       | rfl
       | (rw [decide_eq_decide]; omega)
     rw [e1,e2,←C.out.1]
    )
    obtain⟨wz,cn,ad,ae,aP⟩:=Ag w8 #[.int .i64 (F),.int .i64 (G),.int .i64 (Ah (Az (ns:Int)) q.bad),.int .i64 (Bb p.topo (ns:Int) q.adj)] 33
    have aQ:=hide (B0 (l:=[F,G,Ah (Az (ns:Int)) q.bad,Bb p.topo (ns:Int) q.adj]) ae (by simp))
    have aR:=hide (ab.out.trans (ad.mono ab.out.size))
    clear ae aP ad
    refine Reg.wI [24] [25,26] rfl fun Qf f=>?_
    go_wp2_with fail
    first | refine f _ _ ⟨rfl,?_⟩ | refine⟨rfl,?_⟩ | refine f _ _ ⟨by simp [Reg.fineT,Reg.intOp,Region.wanted,yielded,Reg.intFine,Reg.isInt,Act.eval],?_⟩
    try clear f
    refine Reg.aI 25 [26] [] rfl fun Qf f=>?_
    simp only [gT,gS,gZ]
    go_wp2_with (go_at_call 26; refine(B7 (l:=[F,G,Ah (Az (ns:Int)) q.bad,Bb p.topo (ns:Int) q.adj]) aQ.out).mono ?_; rintro e w' ⟨rfl,rfl⟩)
    first | refine f _ _ ⟨Reg.nm,?_⟩ | refine⟨Reg.nm,?_⟩
    try clear f
    refine Reg.wI [26] [] rfl fun Qf f=>?_
    go_wp2_with fail
    first | refine f _ _ ⟨rfl,?_⟩ | refine⟨rfl,?_⟩ | refine f _ _ ⟨by simp [Reg.fineT,Reg.intOp,Region.wanted,yielded,Reg.intFine,Reg.isInt,Act.eval],?_⟩
    try clear f
    first | refine Reg.restI_end ?_ | skip
    go_wp2_with fail
    go_ret
    exact⟨congrArg (Value.int .i64) (bh.out.trans aM.out).symm,aR.out⟩
   case false=>
    go_wp2_with fail
    have O:=hide (aa.out.at (Ap wr))
    have cb:=O.out.b2.cell
    have cc:=O.out.b3.cell
    have cd:=Am O.out.b2 M.out
    have Z:=hide (V.out.trans ((Ap wr).mono V.out.size))
    refine Reg.cI [0,1,3,7,15,31,63,127,255,511,1023,0,2048,6144,14336,32767,0,65536,0,524287,0,0,2097152,8388607,16777215,33554431,67108863] [0,1,2,3,4,5,6,7,8,9,11,12,13,14,16,17,18,20,21,22,10,15,19,23,24,25,26] ?_
    refine Reg.wI [0,1,2,3,4,5,6,7,8,9,11,12,13,14,16,17,18,20,21,22] [10,15,19,23,24,25,26] rfl fun Qf f=>?_
    go_wp2_with fail
    first | refine f _ _ ⟨rfl,?_⟩ | refine⟨rfl,?_⟩ | refine f _ _ ⟨by simp [Reg.fineT,Reg.intOp,Region.wanted,yielded,Reg.intFine,Reg.isInt,Act.eval],?_⟩
    try clear f
    refine Reg.aI 10 [15,19,23,24,25,26] [12,17,20,22] rfl fun Qf f=>?_
    simp only [gT,gS,gZ]
    go_wp2_with (go_at_call 27; refine Calls.ret (Dn _ _ _) ?_; rintro r w' ⟨⟨F,rfl,aJ⟩,rfl⟩)
    first | refine f _ _ ⟨Reg.same_below (Below.refl _ _) [12,17,20,22] rfl,?_⟩ | refine⟨Reg.same_below (Below.refl _ _) [12,17,20,22] rfl,?_⟩
    try clear f
    refine Reg.aI 15 [19,23,24,25,26] [17,20,22] rfl fun Qf f=>?_
    simp only [gT,gS,gZ]
    go_wp2_with (go_at_call 27; refine Calls.ret (Dn _ _ _) ?_; rintro r w' ⟨⟨G,rfl,aK⟩,rfl⟩)
    first | refine f _ _ ⟨Reg.same_below (Below.refl _ _) [17,20,22] rfl,?_⟩ | refine⟨Reg.same_below (Below.refl _ _) [17,20,22] rfl,?_⟩
    try clear f
    refine Reg.aI 19 [23,24,25,26] [20,22] rfl fun Qf f=>?_
    simp only [gT,gS,gZ]
    go_wp2_with (go_at_call 28; refine Calls.ret (ba _ Z.out) ?_; rintro v w7 ⟨rfl,I⟩)
    first | refine f _ _ ⟨Reg.same_below (I) [20,22] rfl,?_⟩ | refine⟨Reg.same_below (I) [20,22] rfl,?_⟩
    try clear f
    have J:=hide (O.out.at I)
    have cf:=J.out.b2.cell
    have cg:=J.out.b3.cell
    have ch:=Am J.out.b2 M.out
    have a2:=hide (Z.out.trans (I.mono Z.out.size))
    clear I
    refine Reg.aI 23 [24,25,26] [] rfl fun Qf f=>?_
    simp only [gT,gS,gZ]
    go_wp2_with (go_at_call 29; refine Calls.ret (bb _ J a2.out) ?_; rintro v w8 ⟨rfl,a3⟩)
    first | refine f _ _ ⟨Reg.nm,?_⟩ | refine⟨Reg.nm,?_⟩
    try clear f
    have a4:=hide (J.out.at a3)
    have ci:=a4.out.b2.cell
    have cj:=a4.out.b3.cell
    have ck:=Am a4.out.b2 M.out
    have ab:=hide (a2.out.trans (a3.mono a2.out.size))
    clear a3
    have aM:=hide (show De p q=Ah id [F,G,Ah (Az (ns:Int)) q.bad,Bb p.topo (ns:Int) q.adj] from by
     unfold De
     simp only [Ah,id_eq,Be]
     have e1:F=Ac (q.bad.isEmpty&&q.adj.isEmpty) 1:=by
      rw [aJ.out]
      congr 1
      rw [Bn q.bad,Bn q.adj,←C.out.2.2.2.1,←C.out.2.2.2.2.1,←D7]
      rw [bi]
      rfl
     have e2:G=Ac (decide (3<q.bad.length)) 4:=by
      rw [aK.out]
      congr 1
      rw [←C.out.2.2.2.1]
      first
       | rfl
       | (rw [decide_eq_decide]; omega)
     rw [e1,e2,←C.out.1]
    )
    obtain⟨wz,cn,ad,ae,aP⟩:=Ag w8 #[.int .i64 (F),.int .i64 (G),.int .i64 (Ah (Az (ns:Int)) q.bad),.int .i64 (Bb p.topo (ns:Int) q.adj)] 33
    have aQ:=hide (B0 (l:=[F,G,Ah (Az (ns:Int)) q.bad,Bb p.topo (ns:Int) q.adj]) ae (by simp))
    have aR:=hide (ab.out.trans (ad.mono ab.out.size))
    clear ae aP ad
    refine Reg.wI [24] [25,26] rfl fun Qf f=>?_
    go_wp2_with fail
    first | refine f _ _ ⟨rfl,?_⟩ | refine⟨rfl,?_⟩ | refine f _ _ ⟨by simp [Reg.fineT,Reg.intOp,Region.wanted,yielded,Reg.intFine,Reg.isInt,Act.eval],?_⟩
    try clear f
    refine Reg.aI 25 [26] [] rfl fun Qf f=>?_
    simp only [gT,gS,gZ]
    go_wp2_with (go_at_call 26; refine(B7 (l:=[F,G,Ah (Az (ns:Int)) q.bad,Bb p.topo (ns:Int) q.adj]) aQ.out).mono ?_; rintro e w' ⟨rfl,rfl⟩)
    first | refine f _ _ ⟨Reg.nm,?_⟩ | refine⟨Reg.nm,?_⟩
    try clear f
    refine Reg.wI [26] [] rfl fun Qf f=>?_
    go_wp2_with fail
    first | refine f _ _ ⟨rfl,?_⟩ | refine⟨rfl,?_⟩ | refine f _ _ ⟨by simp [Reg.fineT,Reg.intOp,Region.wanted,yielded,Reg.intFine,Reg.isInt,Act.eval],?_⟩
    try clear f
    first | refine Reg.restI_end ?_ | skip
    go_wp2_with fail
    go_ret
    exact⟨congrArg (Value.int .i64) (bh.out.trans aM.out).symm,aR.out⟩
end Go.Proofs.YtlakpndhhelliaaGreatDoor.K
namespace Go.Proofs.YtlakpndhhelliaaGreatDoor.K
open Go.RowKit
attribute [-go_sem] loadCellsFrom storeCells
theorem Kz {w:World} {cs ds:List Value} {p:Ao} {q:Bd} (h:Ax w w.heap.size cs p) (V:BE w w.heap.size ds q) (J:p.Small) (F:q.Small) (hT:AL w) (aC:Hid (At Ab p=0)) (aD:Hid (Ab q.name=true)) (M:Hid (q.kind=2)) (hg:q.bad.length=0) (am:q.adj.length=0) {W:Int} (an:Hid (Aa q.start (p.states.length:Int)=W)) (bp:(W != 0)=true):
  Calls Tryz.prog 12 #[.agg cs.toArray,.agg ds.toArray] w (Ret fun v w'=>v=.int .i64 (W)∧Below w.heap.size w w'):=by
 obtain⟨A1,c1,A2,c2,A3,c3,A4,c4,A5,c5,A6,c6,A7,c7,Z,bC,bD,aG,bE,bF,bG,bH,aH,bI,bJ,h1,h2,h3,h4,h5,h6,h7,ap⟩:=h.cells
 obtain⟨B1,d1,B2,d2,B3,d3,B4,d4,aX,bK,aY,aZ,b0,b1,b4,k1,k2,k3,k4⟩:=V.cells
 have bL:=F.name
 have b5:=F.start
 have b6:=F.bad
 have b7:=F.adj
 have b8:=F.goal
 have b9:=J.states
 have ba:=J.initial
 have bb:=hide J
 have bc:=hide h5
 have bd:=hide k1
 have be:=hide k2
 have bf:=hide k3
 have bg:=hide k4
 obtain⟨w1,bM,O,aw,bh⟩:=Ag w cs.toArray 27
 obtain⟨w2,bN,a2,ax,M⟩:=Ag w1 ds.toArray 30
 have E:=hide (O.trans (a2.mono O.size))
 have bO:=O.size
 have G:=hide (show PQX w2 w.heap.size w1.heap.size cs.toArray ds.toArray p q from⟨h.keep (fun _ z=>E.out.cell z) E.out.size,V.keep (fun _ z=>E.out.cell z) E.out.size,aw.below a2,ax,hT.below E.out⟩)
 generalize bi:cs.toArray=pc at*
 generalize bj:ds.toArray=qc at*
 obtain⟨ns,a3⟩:∃n,n=p.states.length:=⟨_,rfl⟩
 obtain⟨ni,a4⟩:∃n,n=p.initial.length:=⟨_,rfl⟩
 obtain⟨nt,a5⟩:∃n,n=q.start.length:=⟨_,rfl⟩
 obtain⟨nb,a7⟩:∃n,n=q.bad.length:=⟨_,rfl⟩
 obtain⟨na,a9⟩:∃n,n=q.adj.length:=⟨_,rfl⟩
 obtain⟨ng,aa⟩:∃n,n=q.goal.length:=⟨_,rfl⟩
 obtain⟨kq,ad⟩:∃n,n=q.kind:=⟨_,rfl⟩
 have C:=hide (show ns=p.states.length∧ni=p.initial.length∧nt=q.start.length∧nb=q.bad.length∧na=q.adj.length∧ng=q.goal.length∧kq=q.kind from⟨a3,a4,a5,a7,a9,aa,ad⟩)
 rw [←a3] at aG b9
 rw [←a4] at aH ba
 rw [←a5] at aZ b5
 rw [←a7] at b0 b6
 rw [←a9] at b1 b7
 rw [←aa] at b4 b8
 rw [←ad] at aY
 clear a3 a4 a5 a7 a9 aa ad
 have ae:=hide Z
 have bk:∀f,Hid (PQX f w.heap.size w1.heap.size pc qc p q)→Calls Tryz.prog 22 #[.agg pc] f (Ret fun v w'=>v=.int .i64 (At Ab p)∧Below f.heap.size f w'):=fun f y=>Dt y.out.pr bb.out y.out.tab
 have bl:∀f,Below w.heap.size w f→Calls Tryz.prog 24 #[.slice B1 nt d1,.int .i64 (ns:Int)] f (Ret fun r w'=>r=.int .i64 (Aa q.start (ns:Int))∧Below f.heap.size f w'):=fun f y=>by
  rw [C.out.2.2.1]
  exact Bw (bd.out.keep (fun _ z=>y.cell z) y.size)
 have bP:∀f,Below w.heap.size w f→Calls Tryz.prog 24 #[.slice B4 ng d4,.int .i64 (ns:Int)] f (Ret fun r w'=>r=.int .i64 (Aa q.goal (ns:Int))∧Below f.heap.size f w'):=fun f y=>by
  rw [C.out.2.2.2.2.2.1]
  exact Bw (bg.out.keep (fun _ z=>y.cell z) y.size)
 have bQ:∀f x,Below w.heap.size w f→Calls Tryz.prog 25 #[.slice A5 ni c5,.int .i64 x] f fun r w'=>r=.returned (.bool (decide (x∈p.initial)))∧f=w':=fun f x y=>by
  rw [C.out.2.1]
  exact Dx (bc.out.keep (fun _ z=>y.cell z) y.size)
 have bR:∀f,Below w.heap.size w f→Calls Tryz.prog 28 #[.slice B2 nb d2,.int .i64 (ns:Int)] f (Ret fun r w'=>r=.int .i64 (Ah (Az (ns:Int)) q.bad)∧Below f.heap.size f w'):=fun f y=>by
  rw [C.out.2.2.2.1]
  exact DG (be.out.keep (fun _ z=>y.cell z) (fun _ _ h=>h.keep (fun _ z=>y.cell z) y.size) y.size)
 have bS:∀f,Hid (PQX f w.heap.size w1.heap.size pc qc p q)→Below w.heap.size w f→Calls Tryz.prog 29 #[.agg pc,.slice B3 na d3] f (Ret fun r w'=>r=.int .i64 (Bb p.topo (ns:Int) q.adj)∧Below f.heap.size f w'):=fun f bm y=>by
  rw [C.out.2.2.2.2.1,C.out.1]
  exact DH bm.out.pr (bf.out.keep (fun _ z=>y.cell z) y.size)
 have bT:=G.out.b2.cell
 have bU:=G.out.b3.cell
 have bV:=Am G.out.b2 Z
 have bn:=ap
 clear h1 h2 h3 h4 h5 h6 h7 k1 k2 k3 k4 h V J F O a2 aw ax bh M bi bj hT Z aX ap bn
 rw [←C.out.1] at an
 rw [←C.out.2.2.2.1] at hg
 rw [←C.out.2.2.2.2.1] at am
 have bW:¬(0:Int)<(nb:Int):=by omega
 have bX:¬(0:Int)<(na:Int):=by omega
 clear hg am
 have bY:(kq==1)=false:=by rw [C.out.2.2.2.2.2.2,M.out]; rfl
 have bZ:(kq != 2)=false:=by rw [C.out.2.2.2.2.2.2,M.out]; rfl
 go_enter Tryz.func12,Tryz.ntmps12
 go_wp2_with (first
  | (go_at_call 22; refine Calls.ret (bk _ G) ?_; rintro v w3 ⟨rfl,af⟩; rw [aC.out]; have I:=hide (G.out.at af); have c8:=I.out.b2.cell; have c9:=I.out.b3.cell; have ca:=Am I.out.b2 ae.out; have aB:=hide (E.out.trans (af.mono E.out.size)); clear af)
  | (go_at_call 23; refine Calls.ret (CG q.name _ (by omega) I.out.tab) ?_; rintro v w4 ⟨rfl,ag⟩; rw [aD.out]; have U:=hide (I.out.at ag); have cc:=U.out.b2.cell; have cd:=U.out.b3.cell; have ce:=Am U.out.b2 ae.out; have ah:=hide (aB.out.trans (ag.mono aB.out.size)); clear ag)
  | (go_at_call 24; refine Calls.ret (bl _ ah.out) ?_; rintro v w5 ⟨rfl,ai⟩; rw [an.out]; have aj:=hide (U.out.at ai); have cg:=aj.out.b2.cell; have ch:=aj.out.b3.cell; have ci:=Am aj.out.b2 ae.out; have bo:=hide (ah.out.trans (ai.mono ah.out.size)); clear ai))
 go_ret
 exact⟨rfl,bo.out⟩
theorem Lc {w:World} {cs ds:List Value} {p:Ao} {q:Bd} (h:Ax w w.heap.size cs p) (h':BE w w.heap.size ds q) (a3:p.Small) (I:q.Small) (hT:AL w) (aE:Hid (At Ab p=0)) (aF:Hid (Ab q.name=true)) (O:Hid (q.kind=2)) (hg:q.bad.length=0) (ad:q.adj.length=0) (ae:Hid (Aa q.start (p.states.length:Int)=0)):
  Calls Tryz.prog 12 #[.agg cs.toArray,.agg ds.toArray] w (Ret fun v w'=>v=.int .i64 (AJ Ab p q)∧Below w.heap.size w w'):=by
 obtain⟨A1,c1,A2,c2,A3,c3,A4,c4,A5,c5,A6,c6,A7,c7,af,ce,cf,b5,cg,ch,ci,cj,b6,ck,cm,h1,h2,h3,h4,h5,h6,h7,aJ⟩:=h.cells
 obtain⟨B1,d1,B2,d2,B3,d3,B4,d4,bj,cn,bk,bl,bm,bn,bo,k1,k2,k3,k4⟩:=h'.cells
 have co:=I.name
 have bp:=I.start
 have bq:=I.bad
 have br:=I.adj
 have bs:=I.goal
 have bt:=a3.states
 have bu:=a3.initial
 have bv:=hide a3
 have bw:=hide h5
 have aO:=hide k1
 have bx:=hide k2
 have bz:=hide k3
 have bA:=hide k4
 obtain⟨w1,cp,a4,aP,bB⟩:=Ag w cs.toArray 27
 obtain⟨w2,cq,ah,aQ,O⟩:=Ag w1 ds.toArray 30
 have F:=hide (a4.trans (ah.mono a4.size))
 have cr:=a4.size
 have U:=hide (show PQX w2 w.heap.size w1.heap.size cs.toArray ds.toArray p q from⟨h.keep (fun _ z=>F.out.cell z) F.out.size,h'.keep (fun _ z=>F.out.cell z) F.out.size,aP.below ah,aQ,hT.below F.out⟩)
 generalize bC:cs.toArray=pc at*
 generalize bD:ds.toArray=qc at*
 obtain⟨ns,ai⟩:∃n,n=p.states.length:=⟨_,rfl⟩
 obtain⟨ni,aj⟩:∃n,n=p.initial.length:=⟨_,rfl⟩
 obtain⟨V,ak⟩:∃n,n=q.start.length:=⟨_,rfl⟩
 obtain⟨nb,am⟩:∃n,n=q.bad.length:=⟨_,rfl⟩
 obtain⟨na,ao⟩:∃n,n=q.adj.length:=⟨_,rfl⟩
 obtain⟨ng,ap⟩:∃n,n=q.goal.length:=⟨_,rfl⟩
 obtain⟨kq,ar⟩:∃n,n=q.kind:=⟨_,rfl⟩
 have E:=hide (show ns=p.states.length∧ni=p.initial.length∧V=q.start.length∧nb=q.bad.length∧na=q.adj.length∧ng=q.goal.length∧kq=q.kind from⟨ai,aj,ak,am,ao,ap,ar⟩)
 rw [←ai] at b5 bt
 rw [←aj] at b6 bu
 rw [←ak] at bl bp
 rw [←am] at bm bq
 rw [←ao] at bn br
 rw [←ap] at bo bs
 rw [←ar] at bk
 clear ai aj ak am ao ap ar
 have J:=hide af
 have bE:∀f,Hid (PQX f w.heap.size w1.heap.size pc qc p q)→Calls Tryz.prog 22 #[.agg pc] f (Ret fun v w'=>v=.int .i64 (At Ab p)∧Below f.heap.size f w'):=fun f y=>Dt y.out.pr bv.out y.out.tab
 have bF:∀f,Below w.heap.size w f→Calls Tryz.prog 24 #[.slice B1 V d1,.int .i64 (ns:Int)] f (Ret fun r w'=>r=.int .i64 (Aa q.start (ns:Int))∧Below f.heap.size f w'):=fun f y=>by
  rw [E.out.2.2.1]
  exact Bw (aO.out.keep (fun _ z=>y.cell z) y.size)
 have bG:∀f,Below w.heap.size w f→Calls Tryz.prog 24 #[.slice B4 ng d4,.int .i64 (ns:Int)] f (Ret fun r w'=>r=.int .i64 (Aa q.goal (ns:Int))∧Below f.heap.size f w'):=fun f y=>by
  rw [E.out.2.2.2.2.2.1]
  exact Bw (bA.out.keep (fun _ z=>y.cell z) y.size)
 have bH:∀f x,Below w.heap.size w f→Calls Tryz.prog 25 #[.slice A5 ni c5,.int .i64 x] f fun r w'=>r=.returned (.bool (decide (x∈p.initial)))∧f=w':=fun f x y=>by
  rw [E.out.2.1]
  exact Dx (bw.out.keep (fun _ z=>y.cell z) y.size)
 have ct:∀f,Below w.heap.size w f→Calls Tryz.prog 28 #[.slice B2 nb d2,.int .i64 (ns:Int)] f (Ret fun r w'=>r=.int .i64 (Ah (Az (ns:Int)) q.bad)∧Below f.heap.size f w'):=fun f y=>by
  rw [E.out.2.2.2.1]
  exact DG (bx.out.keep (fun _ z=>y.cell z) (fun _ _ h=>h.keep (fun _ z=>y.cell z) y.size) y.size)
 have cu:∀f,Hid (PQX f w.heap.size w1.heap.size pc qc p q)→Below w.heap.size w f→Calls Tryz.prog 29 #[.agg pc,.slice B3 na d3] f (Ret fun r w'=>r=.int .i64 (Bb p.topo (ns:Int) q.adj)∧Below f.heap.size f w'):=fun f bI y=>by
  rw [E.out.2.2.2.2.1,E.out.1]
  exact DH bI.out.pr (bz.out.keep (fun _ z=>y.cell z) y.size)
 have cv:=U.out.b2.cell
 have cw:=U.out.b3.cell
 have cx:=Am U.out.b2 af
 have bJ:=aJ
 clear h1 h2 h3 h4 h5 h6 h7 k1 k2 k3 k4 h h' a3 I a4 ah aP aQ bB O bC bD hT af bj aJ bJ
 have hR:=hide (show AJ Ab p q=orE (Ac (!Cn p q) 5) (DW p q) from by
  rw [GF aE.out aF.out O.out hg ad,ae.out]
  rfl)
 rw [←E.out.1] at ae
 rw [←E.out.2.2.2.1] at hg
 rw [←E.out.2.2.2.2.1] at ad
 have cy:¬(0:Int)<(nb:Int):=by omega
 have cz:¬(0:Int)<(na:Int):=by omega
 clear hg ad
 have cA:(kq==1)=false:=by rw [E.out.2.2.2.2.2.2,O.out]; rfl
 have cB:(kq != 2)=false:=by rw [E.out.2.2.2.2.2.2,O.out]; rfl
 go_enter Tryz.func12,Tryz.ntmps12
 go_wp2_with (first
  | (go_at_call 22; refine Calls.ret (bE _ U) ?_; rintro v w3 ⟨rfl,au⟩; rw [aE.out]; have W:=hide (U.out.at au); have cE:=W.out.b2.cell; have cF:=W.out.b3.cell; have cG:=Am W.out.b2 J.out; have aU:=hide (F.out.trans (au.mono F.out.size)); clear au)
  | (go_at_call 23; refine Calls.ret (CG q.name _ (by omega) W.out.tab) ?_; rintro v w4 ⟨rfl,av⟩; rw [aF.out]; have a5:=hide (W.out.at av); have cJ:=a5.out.b2.cell; have cK:=a5.out.b3.cell; have cL:=Am a5.out.b2 J.out; have aw:=hide (aU.out.trans (av.mono aU.out.size)); clear av)
  | (go_at_call 24; refine Calls.ret (bF _ aw.out) ?_; rintro v w5 ⟨rfl,ax⟩; rw [ae.out]; have a6:=hide (a5.out.at ax); have cM:=a6.out.b2.cell; have cO:=a6.out.b3.cell; have cQ:=Am a6.out.b2 J.out; have aW:=hide (aw.out.trans (ax.mono aw.out.size)); clear ax))
 go_loopw [67] (fun ii wr=>∃(k:Nat),ii=.int .i64 (k:Int)∧k≤V∧Hid (Below w5.heap.size w5 wr)∧Hid ((q.start.take k).all (fun x=>decide (x∈p.initial))=true)) (fun ii _=>V - (intOf ii).toNat)
 case atStart=>exact⟨0,rfl,Nat.zero_le _,Below.refl _ _,by show _=_; simp⟩
 case round=>
  obtain⟨k,rfl,hk,az,hE⟩:=hrel
  have a7:=hide (a6.out.at az.out)
  have cR:=a7.out.b2.cell
  have cS:=a7.out.b3.cell
  have cT:=Am a7.out.b2 J.out
  have Z:=hide (aW.out.trans (az.out.mono aW.out.size))
  by_cases cU:k<V
  ·obtain⟨b,cV,x,hA,cW,y,G⟩:=(aO.out.keep (w':=wr) (B':=w.heap.size) (fun _ z=>Z.out.cell z) (Nat.le_refl _)).at (k:=k) (by have:=E.out.2.2.1; omega)
   have d0:=G 0 (by omega)
   simp only [Nat.add_zero,Nat.mul_one,Ai] at d0
   have aX:=hide y
   subst hA
   clear G y
   have G:=hide (bH _ x Z.out)
   cases M:decide (x∈p.initial)
   ·have bM:=hide (show Cn p q=false from by
     unfold Cn
     rw [List.all_eq_false]
     exact⟨x,List.mem_of_getElem? aX.out,by rw [M]; decide⟩)
    rw [M] at G
    clear M
    go_wp2_with (go_at_call 25; refine G.out.mono ?_; rintro r w' ⟨rfl,rfl⟩)
    go_ret
    exact⟨congrArg (Value.int .i64) (hR.out.trans (by rw [bM.out]; rfl)).symm,Z.out⟩
   ·have bN:=hide (BP (p:=fun x=>decide (x∈p.initial)) aX.out hE.out M)
    rw [M] at G
    clear M
    go_wp2_with (go_at_call 25; refine G.out.mono ?_; rintro r w' ⟨rfl,rfl⟩)
    exact⟨⟨k+1,by go_num,by omega,az.out,bN.out⟩,by simp [intOf]; omega⟩
  ·have bO:=hide (show Cn p q=true from by
    have h1:=E.out.2.2.1
    have h2:=hE.out
    rwa [List.take_of_length_le (by omega)] at h2)
   have bP:=hide (show AJ Ab p q=DW p q from by rw [hR.out,bO.out]; rfl)
   clear hE
   go_wp2_with fail
   have a8:=hide (a7.out.at (Ap wr))
   have cX:=a8.out.b2.cell
   have cY:=a8.out.b3.cell
   have cZ:=Am a8.out.b2 J.out
   have aB:=hide (Z.out.trans ((Ap wr).mono Z.out.size))
   refine Reg.cI [0,1,0,7,0,16,48,112,255,511,1023,2047] [0,1,2,4,5,6,7,3,8,9,10,11] ?_
   refine Reg.wI [0,1,2,4,5,6,7] [3,8,9,10,11] rfl fun Qf C=>?_
   go_wp2_with fail
   first | refine C _ _ ⟨rfl,?_⟩ | refine⟨rfl,?_⟩ | refine C _ _ ⟨by simp [Reg.fineT,Reg.intOp,Region.wanted,yielded,Reg.intFine,Reg.isInt,Act.eval],?_⟩
   try clear C
   refine Reg.aI 3 [8,9,10,11] [5] rfl fun Qf C=>?_
   simp only [gT,gS,gZ]
   go_wp2_with (go_at_call 24; refine Calls.ret (bG _ aB.out) ?_; rintro v w7 ⟨rfl,a2⟩)
   first | refine C _ _ ⟨Reg.same_below (a2) [5] rfl,?_⟩ | refine⟨Reg.same_below (a2) [5] rfl,?_⟩
   try clear C
   have aC:=hide (a8.out.at a2)
   have d5:=aC.out.b2.cell
   have d6:=aC.out.b3.cell
   have d7:=Am aC.out.b2 J.out
   have aY:=hide (aB.out.trans (a2.mono aB.out.size))
   clear a2
   refine Reg.aI 8 [9,10,11] [] rfl fun Qf C=>?_
   simp only [gT,gS,gZ]
   go_wp2_with (go_at_call 27; refine Calls.ret (Dn _ _ _) ?_; rintro r w' ⟨⟨x1,rfl,bR⟩,rfl⟩)
   first | refine C _ _ ⟨Reg.nm,?_⟩ | refine⟨Reg.nm,?_⟩
   try clear C
   have bS:=hide (show DW p q=Ah id [Aa q.goal (ns:Int),x1] from by
    unfold DW
    simp only [Ah,id_eq,Be]
    rw [bR.out,Bn q.goal,←E.out.2.2.2.2.2.1,←E.out.1]
    simp only [D7]
   )
   obtain⟨wz,d9,aZ,b0,bT⟩:=Ag w7 #[.int .i64 (Aa q.goal (ns:Int)),.int .i64 (x1)] 33
   have bU:=hide (B0 (l:=[Aa q.goal (ns:Int),x1]) b0 (by simp))
   have bV:=hide (aY.out.trans (aZ.mono aY.out.size))
   clear b0 bT aZ
   refine Reg.wI [9] [10,11] rfl fun Qf C=>?_
   go_wp2_with fail
   first | refine C _ _ ⟨rfl,?_⟩ | refine⟨rfl,?_⟩ | refine C _ _ ⟨by simp [Reg.fineT,Reg.intOp,Region.wanted,yielded,Reg.intFine,Reg.isInt,Act.eval],?_⟩
   try clear C
   refine Reg.aI 10 [11] [] rfl fun Qf C=>?_
   simp only [gT,gS,gZ]
   go_wp2_with (go_at_call 26; refine(B7 (l:=[Aa q.goal (ns:Int),x1]) bU.out).mono ?_; rintro e w' ⟨rfl,rfl⟩)
   first | refine C _ _ ⟨Reg.nm,?_⟩ | refine⟨Reg.nm,?_⟩
   try clear C
   refine Reg.wI [11] [] rfl fun Qf C=>?_
   go_wp2_with fail
   first | refine C _ _ ⟨rfl,?_⟩ | refine⟨rfl,?_⟩ | refine C _ _ ⟨by simp [Reg.fineT,Reg.intOp,Region.wanted,yielded,Reg.intFine,Reg.isInt,Act.eval],?_⟩
   try clear C
   first | refine Reg.restI_end ?_ | skip
   go_wp2_with fail
   go_ret
   exact⟨congrArg (Value.int .i64) (bP.out.trans bS.out).symm,bV.out⟩
end Go.Proofs.YtlakpndhhelliaaGreatDoor.K
