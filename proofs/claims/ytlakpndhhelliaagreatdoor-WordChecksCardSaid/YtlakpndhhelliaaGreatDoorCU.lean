/-
  Part CU of a proof.
-/
import Derived.Test.YtlakpndhhelliaaGreatDoorPA
import Derived.Test.YtlakpndhhelliaaGreatDoorCJ
set_option maxHeartbeats 16000000
set_option maxRecDepth 100000
set_option linter.unusedVariables false
set_option linter.unusedSimpArgs false
namespace Go.Proofs.YtlakpndhhelliaaGreatDoor.K
open Go.RowKit
attribute [-go_sem] loadCellsFrom storeCells
theorem Nw {w:World} {cs ds:List Value} {p:Ao} {q:Bd} (h:Ax w w.heap.size cs p) (M:BE w w.heap.size ds q) (I:p.Small) (E:q.Small) (hT:AL w) {O:Int} (ao:Hid (At Ab p=O)) (be:(O != 0)=true):
  Calls Tryz.prog 12 #[.agg cs.toArray,.agg ds.toArray] w (Ret fun v w'=>v=.int .i64 (O)∧Below w.heap.size w w'):=by
 obtain⟨A1,c1,A2,c2,A3,c3,A4,c4,A5,c5,A6,c6,A7,c7,U,bq,br,ar,bs,bt,bu,bv,au,bw,bx,h1,h2,h3,h4,h5,h6,h7,ab⟩:=h.cells
 obtain⟨B1,d1,B2,d2,B3,d3,B4,d4,aK,bz,aL,aM,aN,aO,aP,k1,k2,k3,k4⟩:=M.cells
 have bA:=E.name
 have aQ:=E.start
 have aR:=E.bad
 have aS:=E.adj
 have aT:=E.goal
 have aU:=I.states
 have aV:=I.initial
 have aW:=hide I
 have aX:=hide h5
 have aY:=hide k1
 have aZ:=hide k2
 have b0:=hide k3
 have b1:=hide k4
 obtain⟨w1,bB,J,ah,b4⟩:=Ag w cs.toArray 27
 obtain⟨w2,bC,V,ai,b5⟩:=Ag w1 ds.toArray 30
 have C:=hide (J.trans (V.mono J.size))
 have bD:=J.size
 have G:=hide (show PQX w2 w.heap.size w1.heap.size cs.toArray ds.toArray p q from⟨h.keep (fun _ z=>C.out.cell z) C.out.size,M.keep (fun _ z=>C.out.cell z) C.out.size,ah.below V,ai,hT.below C.out⟩)
 generalize b6:cs.toArray=pc at*
 generalize b7:ds.toArray=qc at*
 obtain⟨ns,W⟩:∃n,n=p.states.length:=⟨_,rfl⟩
 obtain⟨ni,Z⟩:∃n,n=p.initial.length:=⟨_,rfl⟩
 obtain⟨nt,a2⟩:∃n,n=q.start.length:=⟨_,rfl⟩
 obtain⟨nb,a3⟩:∃n,n=q.bad.length:=⟨_,rfl⟩
 obtain⟨na,a4⟩:∃n,n=q.adj.length:=⟨_,rfl⟩
 obtain⟨ng,a5⟩:∃n,n=q.goal.length:=⟨_,rfl⟩
 obtain⟨kq,a6⟩:∃n,n=q.kind:=⟨_,rfl⟩
 have F:=hide (show ns=p.states.length∧ni=p.initial.length∧nt=q.start.length∧nb=q.bad.length∧na=q.adj.length∧ng=q.goal.length∧kq=q.kind from⟨W,Z,a2,a3,a4,a5,a6⟩)
 rw [←W] at ar aU
 rw [←Z] at au aV
 rw [←a2] at aM aQ
 rw [←a3] at aN aR
 rw [←a4] at aO aS
 rw [←a5] at aP aT
 rw [←a6] at aL
 clear W Z a2 a3 a4 a5 a6
 have b9:=hide U
 have ba:∀f,Hid (PQX f w.heap.size w1.heap.size pc qc p q)→Calls Tryz.prog 22 #[.agg pc] f (Ret fun v w'=>v=.int .i64 (At Ab p)∧Below f.heap.size f w'):=fun f y=>Dt y.out.pr aW.out y.out.tab
 have bE:∀f,Below w.heap.size w f→Calls Tryz.prog 24 #[.slice B1 nt d1,.int .i64 (ns:Int)] f (Ret fun r w'=>r=.int .i64 (Aa q.start (ns:Int))∧Below f.heap.size f w'):=fun f y=>by
  rw [F.out.2.2.1]
  exact Bw (aY.out.keep (fun _ z=>y.cell z) y.size)
 have bF:∀f,Below w.heap.size w f→Calls Tryz.prog 24 #[.slice B4 ng d4,.int .i64 (ns:Int)] f (Ret fun r w'=>r=.int .i64 (Aa q.goal (ns:Int))∧Below f.heap.size f w'):=fun f y=>by
  rw [F.out.2.2.2.2.2.1]
  exact Bw (b1.out.keep (fun _ z=>y.cell z) y.size)
 have bG:∀f x,Below w.heap.size w f→Calls Tryz.prog 25 #[.slice A5 ni c5,.int .i64 x] f fun r w'=>r=.returned (.bool (decide (x∈p.initial)))∧f=w':=fun f x y=>by
  rw [F.out.2.1]
  exact Dx (aX.out.keep (fun _ z=>y.cell z) y.size)
 have bH:∀f,Below w.heap.size w f→Calls Tryz.prog 28 #[.slice B2 nb d2,.int .i64 (ns:Int)] f (Ret fun r w'=>r=.int .i64 (Ah (Az (ns:Int)) q.bad)∧Below f.heap.size f w'):=fun f y=>by
  rw [F.out.2.2.2.1]
  exact DG (aZ.out.keep (fun _ z=>y.cell z) (fun _ _ h=>h.keep (fun _ z=>y.cell z) y.size) y.size)
 have bI:∀f,Hid (PQX f w.heap.size w1.heap.size pc qc p q)→Below w.heap.size w f→Calls Tryz.prog 29 #[.agg pc,.slice B3 na d3] f (Ret fun r w'=>r=.int .i64 (Bb p.topo (ns:Int) q.adj)∧Below f.heap.size f w'):=fun f bb y=>by
  rw [F.out.2.2.2.2.1,F.out.1]
  exact DH bb.out.pr (b0.out.keep (fun _ z=>y.cell z) y.size)
 have bJ:=G.out.b2.cell
 have bK:=G.out.b3.cell
 have bL:=Am G.out.b2 U
 have bc:=ab
 clear h1 h2 h3 h4 h5 h6 h7 k1 k2 k3 k4 h M I E J V ah ai b4 b5 b6 b7 hT U aK ab bc
 go_enter Tryz.func12,Tryz.ntmps12
 go_wp2_with (first
  | (go_at_call 22; refine Calls.ret (ba _ G) ?_; rintro v w3 ⟨rfl,a7⟩; rw [ao.out]; have a8:=hide (G.out.at a7); have bN:=a8.out.b2.cell; have bO:=a8.out.b3.cell; have bP:=Am a8.out.b2 b9.out; have bd:=hide (C.out.trans (a7.mono C.out.size)); clear a7))
 go_ret
 exact⟨rfl,bd.out⟩
theorem O1 {w:World} {cs ds:List Value} {p:Ao} {q:Bd} (h:Ax w w.heap.size cs p) (O:BE w w.heap.size ds q) (J:p.Small) (E:q.Small) (hT:AL w) (ar:Hid (At Ab p=0)) (au:Hid (Ab q.name=false)):
  Calls Tryz.prog 12 #[.agg cs.toArray,.agg ds.toArray] w (Ret fun v w'=>v=.int .i64 (2)∧Below w.heap.size w w'):=by
 obtain⟨A1,c1,A2,c2,A3,c3,A4,c4,A5,c5,A6,c6,A7,c7,U,bs,bt,ax,bu,bv,bw,bx,ay,bz,bA,h1,h2,h3,h4,h5,h6,h7,ad⟩:=h.cells
 obtain⟨B1,d1,B2,d2,B3,d3,B4,d4,aO,bB,aP,aQ,aR,aS,aT,k1,k2,k3,k4⟩:=O.cells
 have bC:=E.name
 have aU:=E.start
 have aV:=E.bad
 have aW:=E.adj
 have aX:=E.goal
 have aY:=J.states
 have aZ:=J.initial
 have b0:=hide J
 have b1:=hide h5
 have b4:=hide k1
 have b5:=hide k2
 have b6:=hide k3
 have b7:=hide k4
 obtain⟨w1,bD,M,ai,b8⟩:=Ag w cs.toArray 27
 obtain⟨w2,bE,V,aj,b9⟩:=Ag w1 ds.toArray 30
 have C:=hide (M.trans (V.mono M.size))
 have bF:=M.size
 have G:=hide (show PQX w2 w.heap.size w1.heap.size cs.toArray ds.toArray p q from⟨h.keep (fun _ z=>C.out.cell z) C.out.size,O.keep (fun _ z=>C.out.cell z) C.out.size,ai.below V,aj,hT.below C.out⟩)
 generalize ba:cs.toArray=pc at*
 generalize bb:ds.toArray=qc at*
 obtain⟨ns,W⟩:∃n,n=p.states.length:=⟨_,rfl⟩
 obtain⟨ni,Z⟩:∃n,n=p.initial.length:=⟨_,rfl⟩
 obtain⟨nt,a2⟩:∃n,n=q.start.length:=⟨_,rfl⟩
 obtain⟨nb,a3⟩:∃n,n=q.bad.length:=⟨_,rfl⟩
 obtain⟨na,a4⟩:∃n,n=q.adj.length:=⟨_,rfl⟩
 obtain⟨ng,a5⟩:∃n,n=q.goal.length:=⟨_,rfl⟩
 obtain⟨kq,a6⟩:∃n,n=q.kind:=⟨_,rfl⟩
 have F:=hide (show ns=p.states.length∧ni=p.initial.length∧nt=q.start.length∧nb=q.bad.length∧na=q.adj.length∧ng=q.goal.length∧kq=q.kind from⟨W,Z,a2,a3,a4,a5,a6⟩)
 rw [←W] at ax aY
 rw [←Z] at ay aZ
 rw [←a2] at aQ aU
 rw [←a3] at aR aV
 rw [←a4] at aS aW
 rw [←a5] at aT aX
 rw [←a6] at aP
 clear W Z a2 a3 a4 a5 a6
 have ap:=hide U
 have bd:∀f,Hid (PQX f w.heap.size w1.heap.size pc qc p q)→Calls Tryz.prog 22 #[.agg pc] f (Ret fun v w'=>v=.int .i64 (At Ab p)∧Below f.heap.size f w'):=fun f y=>Dt y.out.pr b0.out y.out.tab
 have bG:∀f,Below w.heap.size w f→Calls Tryz.prog 24 #[.slice B1 nt d1,.int .i64 (ns:Int)] f (Ret fun r w'=>r=.int .i64 (Aa q.start (ns:Int))∧Below f.heap.size f w'):=fun f y=>by
  rw [F.out.2.2.1]
  exact Bw (b4.out.keep (fun _ z=>y.cell z) y.size)
 have bH:∀f,Below w.heap.size w f→Calls Tryz.prog 24 #[.slice B4 ng d4,.int .i64 (ns:Int)] f (Ret fun r w'=>r=.int .i64 (Aa q.goal (ns:Int))∧Below f.heap.size f w'):=fun f y=>by
  rw [F.out.2.2.2.2.2.1]
  exact Bw (b7.out.keep (fun _ z=>y.cell z) y.size)
 have bI:∀f x,Below w.heap.size w f→Calls Tryz.prog 25 #[.slice A5 ni c5,.int .i64 x] f fun r w'=>r=.returned (.bool (decide (x∈p.initial)))∧f=w':=fun f x y=>by
  rw [F.out.2.1]
  exact Dx (b1.out.keep (fun _ z=>y.cell z) y.size)
 have bJ:∀f,Below w.heap.size w f→Calls Tryz.prog 28 #[.slice B2 nb d2,.int .i64 (ns:Int)] f (Ret fun r w'=>r=.int .i64 (Ah (Az (ns:Int)) q.bad)∧Below f.heap.size f w'):=fun f y=>by
  rw [F.out.2.2.2.1]
  exact DG (b5.out.keep (fun _ z=>y.cell z) (fun _ _ h=>h.keep (fun _ z=>y.cell z) y.size) y.size)
 have bK:∀f,Hid (PQX f w.heap.size w1.heap.size pc qc p q)→Below w.heap.size w f→Calls Tryz.prog 29 #[.agg pc,.slice B3 na d3] f (Ret fun r w'=>r=.int .i64 (Bb p.topo (ns:Int) q.adj)∧Below f.heap.size f w'):=fun f be y=>by
  rw [F.out.2.2.2.2.1,F.out.1]
  exact DH be.out.pr (b6.out.keep (fun _ z=>y.cell z) y.size)
 have bL:=G.out.b2.cell
 have bM:=G.out.b3.cell
 have bN:=Am G.out.b2 U
 have bf:=ad
 clear h1 h2 h3 h4 h5 h6 h7 k1 k2 k3 k4 h O J E M V ai aj b8 b9 ba bb hT U aO ad bf
 go_enter Tryz.func12,Tryz.ntmps12
 go_wp2_with (first
  | (go_at_call 22; refine Calls.ret (bd _ G) ?_; rintro v w3 ⟨rfl,a7⟩; rw [ar.out]; have I:=hide (G.out.at a7); have bP:=I.out.b2.cell; have bQ:=I.out.b3.cell; have bR:=Am I.out.b2 ap.out; have aq:=hide (C.out.trans (a7.mono C.out.size)); clear a7)
  | (go_at_call 23; refine Calls.ret (CG q.name _ (by omega) I.out.tab) ?_; rintro v w4 ⟨rfl,a8⟩; rw [au.out]; have a9:=hide (I.out.at a8); have bT:=a9.out.b2.cell; have bU:=a9.out.b3.cell; have bV:=Am a9.out.b2 ap.out; have bg:=hide (aq.out.trans (a8.mono aq.out.size)); clear a8))
 go_ret
 exact⟨rfl,bg.out⟩
theorem Nq {w:World} {cs ds:List Value} {p:Ao} {q:Bd} (h:Ax w w.heap.size cs p) (V:BE w w.heap.size ds q) (O:p.Small) (F:q.Small) (hT:AL w) (aw:Hid (At Ab p=0)) (ax:Hid (Ab q.name=true)) (G:q.kind≠1) (I:q.kind≠2):
  Calls Tryz.prog 12 #[.agg cs.toArray,.agg ds.toArray] w (Ret fun v w'=>v=.int .i64 (1)∧Below w.heap.size w w'):=by
 obtain⟨A1,c1,A2,c2,A3,c3,A4,c4,A5,c5,A6,c6,A7,c7,W,bs,bt,aA,bu,bv,bw,bx,aB,bz,bA,h1,h2,h3,h4,h5,h6,h7,ag⟩:=h.cells
 obtain⟨B1,d1,B2,d2,B3,d3,B4,d4,aR,bB,aS,aT,aU,aV,aW,k1,k2,k3,k4⟩:=V.cells
 have bC:=F.name
 have aX:=F.start
 have aY:=F.bad
 have aZ:=F.adj
 have b0:=F.goal
 have b1:=O.states
 have b4:=O.initial
 have b5:=hide O
 have b6:=hide h5
 have b7:=hide k1
 have b8:=hide k2
 have b9:=hide k3
 have ba:=hide k4
 obtain⟨w1,bD,U,al,G⟩:=Ag w cs.toArray 27
 obtain⟨w2,bE,Z,am,I⟩:=Ag w1 ds.toArray 30
 have C:=hide (U.trans (Z.mono U.size))
 have bF:=U.size
 have J:=hide (show PQX w2 w.heap.size w1.heap.size cs.toArray ds.toArray p q from⟨h.keep (fun _ z=>C.out.cell z) C.out.size,V.keep (fun _ z=>C.out.cell z) C.out.size,al.below Z,am,hT.below C.out⟩)
 generalize bb:cs.toArray=pc at*
 generalize bc:ds.toArray=qc at*
 obtain⟨ns,a2⟩:∃n,n=p.states.length:=⟨_,rfl⟩
 obtain⟨ni,a3⟩:∃n,n=p.initial.length:=⟨_,rfl⟩
 obtain⟨nt,a4⟩:∃n,n=q.start.length:=⟨_,rfl⟩
 obtain⟨nb,a5⟩:∃n,n=q.bad.length:=⟨_,rfl⟩
 obtain⟨na,a6⟩:∃n,n=q.adj.length:=⟨_,rfl⟩
 obtain⟨ng,a7⟩:∃n,n=q.goal.length:=⟨_,rfl⟩
 obtain⟨kq,a9⟩:∃n,n=q.kind:=⟨_,rfl⟩
 have E:=hide (show ns=p.states.length∧ni=p.initial.length∧nt=q.start.length∧nb=q.bad.length∧na=q.adj.length∧ng=q.goal.length∧kq=q.kind from⟨a2,a3,a4,a5,a6,a7,a9⟩)
 rw [←a2] at aA b1
 rw [←a3] at aB b4
 rw [←a4] at aT aX
 rw [←a5] at aU aY
 rw [←a6] at aV aZ
 rw [←a7] at aW b0
 rw [←a9] at aS
 clear a2 a3 a4 a5 a6 a7 a9
 have au:=hide W
 have bd:∀f,Hid (PQX f w.heap.size w1.heap.size pc qc p q)→Calls Tryz.prog 22 #[.agg pc] f (Ret fun v w'=>v=.int .i64 (At Ab p)∧Below f.heap.size f w'):=fun f y=>Dt y.out.pr b5.out y.out.tab
 have bG:∀f,Below w.heap.size w f→Calls Tryz.prog 24 #[.slice B1 nt d1,.int .i64 (ns:Int)] f (Ret fun r w'=>r=.int .i64 (Aa q.start (ns:Int))∧Below f.heap.size f w'):=fun f y=>by
  rw [E.out.2.2.1]
  exact Bw (b7.out.keep (fun _ z=>y.cell z) y.size)
 have bH:∀f,Below w.heap.size w f→Calls Tryz.prog 24 #[.slice B4 ng d4,.int .i64 (ns:Int)] f (Ret fun r w'=>r=.int .i64 (Aa q.goal (ns:Int))∧Below f.heap.size f w'):=fun f y=>by
  rw [E.out.2.2.2.2.2.1]
  exact Bw (ba.out.keep (fun _ z=>y.cell z) y.size)
 have bI:∀f x,Below w.heap.size w f→Calls Tryz.prog 25 #[.slice A5 ni c5,.int .i64 x] f fun r w'=>r=.returned (.bool (decide (x∈p.initial)))∧f=w':=fun f x y=>by
  rw [E.out.2.1]
  exact Dx (b6.out.keep (fun _ z=>y.cell z) y.size)
 have bJ:∀f,Below w.heap.size w f→Calls Tryz.prog 28 #[.slice B2 nb d2,.int .i64 (ns:Int)] f (Ret fun r w'=>r=.int .i64 (Ah (Az (ns:Int)) q.bad)∧Below f.heap.size f w'):=fun f y=>by
  rw [E.out.2.2.2.1]
  exact DG (b8.out.keep (fun _ z=>y.cell z) (fun _ _ h=>h.keep (fun _ z=>y.cell z) y.size) y.size)
 have bK:∀f,Hid (PQX f w.heap.size w1.heap.size pc qc p q)→Below w.heap.size w f→Calls Tryz.prog 29 #[.agg pc,.slice B3 na d3] f (Ret fun r w'=>r=.int .i64 (Bb p.topo (ns:Int) q.adj)∧Below f.heap.size f w'):=fun f be y=>by
  rw [E.out.2.2.2.2.1,E.out.1]
  exact DH be.out.pr (b9.out.keep (fun _ z=>y.cell z) y.size)
 have bL:=J.out.b2.cell
 have bM:=J.out.b3.cell
 have bN:=Am J.out.b2 W
 have bf:=ag
 clear h1 h2 h3 h4 h5 h6 h7 k1 k2 k3 k4 h V O F U Z al am G I bb bc hT W aR ag bf
 rw [←E.out.2.2.2.2.2.2] at G I
 have bO:(kq==1)=false:=by simp [G]
 have bP:(kq != 2)=true:=by simp [I]
 clear G I
 go_enter Tryz.func12,Tryz.ntmps12
 go_wp2_with (first
  | (go_at_call 22; refine Calls.ret (bd _ J) ?_; rintro v w3 ⟨rfl,aa⟩; rw [aw.out]; have M:=hide (J.out.at aa); have bR:=M.out.b2.cell; have bS:=M.out.b3.cell; have bT:=Am M.out.b2 au.out; have av:=hide (C.out.trans (aa.mono C.out.size)); clear aa)
  | (go_at_call 23; refine Calls.ret (CG q.name _ (by omega) M.out.tab) ?_; rintro v w4 ⟨rfl,ab⟩; rw [ax.out]; have ad:=hide (M.out.at ab); have bV:=ad.out.b2.cell; have bW:=ad.out.b3.cell; have bX:=Am ad.out.b2 au.out; have bg:=hide (av.out.trans (ab.mono av.out.size)); clear ab))
 go_ret
 exact⟨rfl,bg.out⟩
theorem QB {w:World} {cs ds:List Value} {p:Ao} {q:Bd} (h:Ax w w.heap.size cs p) (O:BE w w.heap.size ds q) (J:p.Small) (F:q.Small) (hT:AL w) (aw:Hid (At Ab p=0)) (ax:Hid (Ab q.name=true)) (U:Hid (q.kind=1)) (hg:q.goal.length≠0):
  Calls Tryz.prog 12 #[.agg cs.toArray,.agg ds.toArray] w (Ret fun v w'=>v=.int .i64 (1)∧Below w.heap.size w w'):=by
 obtain⟨A1,c1,A2,c2,A3,c3,A4,c4,A5,c5,A6,c6,A7,c7,V,bt,bu,aA,bv,bw,bx,bz,aB,bA,bB,h1,h2,h3,h4,h5,h6,h7,ag⟩:=h.cells
 obtain⟨B1,d1,B2,d2,B3,d3,B4,d4,aR,bC,aS,aT,aU,aV,aW,k1,k2,k3,k4⟩:=O.cells
 have bD:=F.name
 have aX:=F.start
 have aY:=F.bad
 have aZ:=F.adj
 have b0:=F.goal
 have b1:=J.states
 have b4:=J.initial
 have b5:=hide J
 have b6:=hide h5
 have b7:=hide k1
 have b8:=hide k2
 have b9:=hide k3
 have ba:=hide k4
 obtain⟨w1,bE,M,al,U⟩:=Ag w cs.toArray 27
 obtain⟨w2,bF,W,am,bb⟩:=Ag w1 ds.toArray 30
 have E:=hide (M.trans (W.mono M.size))
 have bG:=M.size
 have G:=hide (show PQX w2 w.heap.size w1.heap.size cs.toArray ds.toArray p q from⟨h.keep (fun _ z=>E.out.cell z) E.out.size,O.keep (fun _ z=>E.out.cell z) E.out.size,al.below W,am,hT.below E.out⟩)
 generalize bc:cs.toArray=pc at*
 generalize bd:ds.toArray=qc at*
 obtain⟨ns,Z⟩:∃n,n=p.states.length:=⟨_,rfl⟩
 obtain⟨ni,a2⟩:∃n,n=p.initial.length:=⟨_,rfl⟩
 obtain⟨nt,a3⟩:∃n,n=q.start.length:=⟨_,rfl⟩
 obtain⟨nb,a4⟩:∃n,n=q.bad.length:=⟨_,rfl⟩
 obtain⟨na,a5⟩:∃n,n=q.adj.length:=⟨_,rfl⟩
 obtain⟨ng,a7⟩:∃n,n=q.goal.length:=⟨_,rfl⟩
 obtain⟨kq,a8⟩:∃n,n=q.kind:=⟨_,rfl⟩
 have C:=hide (show ns=p.states.length∧ni=p.initial.length∧nt=q.start.length∧nb=q.bad.length∧na=q.adj.length∧ng=q.goal.length∧kq=q.kind from⟨Z,a2,a3,a4,a5,a7,a8⟩)
 rw [←Z] at aA b1
 rw [←a2] at aB b4
 rw [←a3] at aT aX
 rw [←a4] at aU aY
 rw [←a5] at aV aZ
 rw [←a7] at aW b0
 rw [←a8] at aS
 clear Z a2 a3 a4 a5 a7 a8
 have au:=hide V
 have be:∀f,Hid (PQX f w.heap.size w1.heap.size pc qc p q)→Calls Tryz.prog 22 #[.agg pc] f (Ret fun v w'=>v=.int .i64 (At Ab p)∧Below f.heap.size f w'):=fun f y=>Dt y.out.pr b5.out y.out.tab
 have bH:∀f,Below w.heap.size w f→Calls Tryz.prog 24 #[.slice B1 nt d1,.int .i64 (ns:Int)] f (Ret fun r w'=>r=.int .i64 (Aa q.start (ns:Int))∧Below f.heap.size f w'):=fun f y=>by
  rw [C.out.2.2.1]
  exact Bw (b7.out.keep (fun _ z=>y.cell z) y.size)
 have bI:∀f,Below w.heap.size w f→Calls Tryz.prog 24 #[.slice B4 ng d4,.int .i64 (ns:Int)] f (Ret fun r w'=>r=.int .i64 (Aa q.goal (ns:Int))∧Below f.heap.size f w'):=fun f y=>by
  rw [C.out.2.2.2.2.2.1]
  exact Bw (ba.out.keep (fun _ z=>y.cell z) y.size)
 have bJ:∀f x,Below w.heap.size w f→Calls Tryz.prog 25 #[.slice A5 ni c5,.int .i64 x] f fun r w'=>r=.returned (.bool (decide (x∈p.initial)))∧f=w':=fun f x y=>by
  rw [C.out.2.1]
  exact Dx (b6.out.keep (fun _ z=>y.cell z) y.size)
 have bK:∀f,Below w.heap.size w f→Calls Tryz.prog 28 #[.slice B2 nb d2,.int .i64 (ns:Int)] f (Ret fun r w'=>r=.int .i64 (Ah (Az (ns:Int)) q.bad)∧Below f.heap.size f w'):=fun f y=>by
  rw [C.out.2.2.2.1]
  exact DG (b8.out.keep (fun _ z=>y.cell z) (fun _ _ h=>h.keep (fun _ z=>y.cell z) y.size) y.size)
 have bL:∀f,Hid (PQX f w.heap.size w1.heap.size pc qc p q)→Below w.heap.size w f→Calls Tryz.prog 29 #[.agg pc,.slice B3 na d3] f (Ret fun r w'=>r=.int .i64 (Bb p.topo (ns:Int) q.adj)∧Below f.heap.size f w'):=fun f bf y=>by
  rw [C.out.2.2.2.2.1,C.out.1]
  exact DH bf.out.pr (b9.out.keep (fun _ z=>y.cell z) y.size)
 have bM:=G.out.b2.cell
 have bN:=G.out.b3.cell
 have bO:=Am G.out.b2 V
 have bg:=ag
 clear h1 h2 h3 h4 h5 h6 h7 k1 k2 k3 k4 h O J F M W al am U bb bc bd hT V aR ag bg
 rw [←C.out.2.2.2.2.2.1] at hg
 have bP:(0:Int)<(ng:Int):=by omega
 clear hg
 have bQ:(kq==1)=true:=by rw [C.out.2.2.2.2.2.2,U.out]; rfl
 go_enter Tryz.func12,Tryz.ntmps12
 go_wp2_with (first
  | (go_at_call 22; refine Calls.ret (be _ G) ?_; rintro v w3 ⟨rfl,a9⟩; rw [aw.out]; have I:=hide (G.out.at a9); have bS:=I.out.b2.cell; have bT:=I.out.b3.cell; have bU:=Am I.out.b2 au.out; have av:=hide (E.out.trans (a9.mono E.out.size)); clear a9)
  | (go_at_call 23; refine Calls.ret (CG q.name _ (by omega) I.out.tab) ?_; rintro v w4 ⟨rfl,aa⟩; rw [ax.out]; have ab:=hide (I.out.at aa); have bW:=ab.out.b2.cell; have bX:=ab.out.b3.cell; have bY:=Am ab.out.b2 au.out; have bh:=hide (av.out.trans (aa.mono av.out.size)); clear aa))
 go_ret
 exact⟨rfl,bh.out⟩
theorem Mb {w:World} {cs ds:List Value} {p:Ao} {q:Bd} (h:Ax w w.heap.size cs p) (U:BE w w.heap.size ds q) (J:p.Small) (F:q.Small) (hT:AL w) (aw:Hid (At Ab p=0)) (ax:Hid (Ab q.name=true)) (M:Hid (q.kind=2)) (hg:q.bad.length≠0):
  Calls Tryz.prog 12 #[.agg cs.toArray,.agg ds.toArray] w (Ret fun v w'=>v=.int .i64 (1)∧Below w.heap.size w w'):=by
 obtain⟨A1,c1,A2,c2,A3,c3,A4,c4,A5,c5,A6,c6,A7,c7,V,bt,bu,aA,bv,bw,bx,bz,aB,bA,bB,h1,h2,h3,h4,h5,h6,h7,ah⟩:=h.cells
 obtain⟨B1,d1,B2,d2,B3,d3,B4,d4,aR,bC,aS,aT,aU,aV,aW,k1,k2,k3,k4⟩:=U.cells
 have bD:=F.name
 have aX:=F.start
 have aY:=F.bad
 have aZ:=F.adj
 have b0:=F.goal
 have b1:=J.states
 have b4:=J.initial
 have b5:=hide J
 have b6:=hide h5
 have b7:=hide k1
 have b8:=hide k2
 have b9:=hide k3
 have ba:=hide k4
 obtain⟨w1,bE,O,am,bb⟩:=Ag w cs.toArray 27
 obtain⟨w2,bF,W,an,M⟩:=Ag w1 ds.toArray 30
 have E:=hide (O.trans (W.mono O.size))
 have bG:=O.size
 have G:=hide (show PQX w2 w.heap.size w1.heap.size cs.toArray ds.toArray p q from⟨h.keep (fun _ z=>E.out.cell z) E.out.size,U.keep (fun _ z=>E.out.cell z) E.out.size,am.below W,an,hT.below E.out⟩)
 generalize bc:cs.toArray=pc at*
 generalize bd:ds.toArray=qc at*
 obtain⟨ns,Z⟩:∃n,n=p.states.length:=⟨_,rfl⟩
 obtain⟨ni,a2⟩:∃n,n=p.initial.length:=⟨_,rfl⟩
 obtain⟨nt,a3⟩:∃n,n=q.start.length:=⟨_,rfl⟩
 obtain⟨nb,a5⟩:∃n,n=q.bad.length:=⟨_,rfl⟩
 obtain⟨na,a6⟩:∃n,n=q.adj.length:=⟨_,rfl⟩
 obtain⟨ng,a7⟩:∃n,n=q.goal.length:=⟨_,rfl⟩
 obtain⟨kq,a9⟩:∃n,n=q.kind:=⟨_,rfl⟩
 have C:=hide (show ns=p.states.length∧ni=p.initial.length∧nt=q.start.length∧nb=q.bad.length∧na=q.adj.length∧ng=q.goal.length∧kq=q.kind from⟨Z,a2,a3,a5,a6,a7,a9⟩)
 rw [←Z] at aA b1
 rw [←a2] at aB b4
 rw [←a3] at aT aX
 rw [←a5] at aU aY
 rw [←a6] at aV aZ
 rw [←a7] at aW b0
 rw [←a9] at aS
 clear Z a2 a3 a5 a6 a7 a9
 have au:=hide V
 have be:∀f,Hid (PQX f w.heap.size w1.heap.size pc qc p q)→Calls Tryz.prog 22 #[.agg pc] f (Ret fun v w'=>v=.int .i64 (At Ab p)∧Below f.heap.size f w'):=fun f y=>Dt y.out.pr b5.out y.out.tab
 have bH:∀f,Below w.heap.size w f→Calls Tryz.prog 24 #[.slice B1 nt d1,.int .i64 (ns:Int)] f (Ret fun r w'=>r=.int .i64 (Aa q.start (ns:Int))∧Below f.heap.size f w'):=fun f y=>by
  rw [C.out.2.2.1]
  exact Bw (b7.out.keep (fun _ z=>y.cell z) y.size)
 have bI:∀f,Below w.heap.size w f→Calls Tryz.prog 24 #[.slice B4 ng d4,.int .i64 (ns:Int)] f (Ret fun r w'=>r=.int .i64 (Aa q.goal (ns:Int))∧Below f.heap.size f w'):=fun f y=>by
  rw [C.out.2.2.2.2.2.1]
  exact Bw (ba.out.keep (fun _ z=>y.cell z) y.size)
 have bJ:∀f x,Below w.heap.size w f→Calls Tryz.prog 25 #[.slice A5 ni c5,.int .i64 x] f fun r w'=>r=.returned (.bool (decide (x∈p.initial)))∧f=w':=fun f x y=>by
  rw [C.out.2.1]
  exact Dx (b6.out.keep (fun _ z=>y.cell z) y.size)
 have bK:∀f,Below w.heap.size w f→Calls Tryz.prog 28 #[.slice B2 nb d2,.int .i64 (ns:Int)] f (Ret fun r w'=>r=.int .i64 (Ah (Az (ns:Int)) q.bad)∧Below f.heap.size f w'):=fun f y=>by
  rw [C.out.2.2.2.1]
  exact DG (b8.out.keep (fun _ z=>y.cell z) (fun _ _ h=>h.keep (fun _ z=>y.cell z) y.size) y.size)
 have bL:∀f,Hid (PQX f w.heap.size w1.heap.size pc qc p q)→Below w.heap.size w f→Calls Tryz.prog 29 #[.agg pc,.slice B3 na d3] f (Ret fun r w'=>r=.int .i64 (Bb p.topo (ns:Int) q.adj)∧Below f.heap.size f w'):=fun f bf y=>by
  rw [C.out.2.2.2.2.1,C.out.1]
  exact DH bf.out.pr (b9.out.keep (fun _ z=>y.cell z) y.size)
 have bM:=G.out.b2.cell
 have bN:=G.out.b3.cell
 have bO:=Am G.out.b2 V
 have bg:=ah
 clear h1 h2 h3 h4 h5 h6 h7 k1 k2 k3 k4 h U J F O W am an bb M bc bd hT V aR ah bg
 rw [←C.out.2.2.2.1] at hg
 have bP:(0:Int)<(nb:Int):=by omega
 clear hg
 have bQ:(kq==1)=false:=by rw [C.out.2.2.2.2.2.2,M.out]; rfl
 have bR:(kq != 2)=false:=by rw [C.out.2.2.2.2.2.2,M.out]; rfl
 go_enter Tryz.func12,Tryz.ntmps12
 go_wp2_with (first
  | (go_at_call 22; refine Calls.ret (be _ G) ?_; rintro v w3 ⟨rfl,aa⟩; rw [aw.out]; have I:=hide (G.out.at aa); have bT:=I.out.b2.cell; have bU:=I.out.b3.cell; have bV:=Am I.out.b2 au.out; have av:=hide (E.out.trans (aa.mono E.out.size)); clear aa)
  | (go_at_call 23; refine Calls.ret (CG q.name _ (by omega) I.out.tab) ?_; rintro v w4 ⟨rfl,ab⟩; rw [ax.out]; have ad:=hide (I.out.at ab); have bX:=ad.out.b2.cell; have bY:=ad.out.b3.cell; have bZ:=Am ad.out.b2 au.out; have bh:=hide (av.out.trans (ab.mono av.out.size)); clear ab))
 go_ret
 exact⟨rfl,bh.out⟩
theorem Po {w:World} {cs ds:List Value} {p:Ao} {q:Bd} (h:Ax w w.heap.size cs p) (U:BE w w.heap.size ds q) (J:p.Small) (F:q.Small) (hT:AL w) (ax:Hid (At Ab p=0)) (ay:Hid (Ab q.name=true)) (M:Hid (q.kind=2)) (hg:q.bad.length=0) (ah:q.adj.length≠0):
  Calls Tryz.prog 12 #[.agg cs.toArray,.agg ds.toArray] w (Ret fun v w'=>v=.int .i64 (1)∧Below w.heap.size w w'):=by
 obtain⟨A1,c1,A2,c2,A3,c3,A4,c4,A5,c5,A6,c6,A7,c7,V,bu,bv,aB,bw,bx,bz,bA,aC,bB,bC,h1,h2,h3,h4,h5,h6,h7,aj⟩:=h.cells
 obtain⟨B1,d1,B2,d2,B3,d3,B4,d4,aS,bD,aT,aU,aV,aW,aX,k1,k2,k3,k4⟩:=U.cells
 have bE:=F.name
 have aY:=F.start
 have aZ:=F.bad
 have b0:=F.adj
 have b1:=F.goal
 have b4:=J.states
 have b5:=J.initial
 have b6:=hide J
 have b7:=hide h5
 have b8:=hide k1
 have b9:=hide k2
 have ba:=hide k3
 have bb:=hide k4
 obtain⟨w1,bF,O,ao,bc⟩:=Ag w cs.toArray 27
 obtain⟨w2,bG,W,ap,M⟩:=Ag w1 ds.toArray 30
 have E:=hide (O.trans (W.mono O.size))
 have bH:=O.size
 have G:=hide (show PQX w2 w.heap.size w1.heap.size cs.toArray ds.toArray p q from⟨h.keep (fun _ z=>E.out.cell z) E.out.size,U.keep (fun _ z=>E.out.cell z) E.out.size,ao.below W,ap,hT.below E.out⟩)
 generalize bd:cs.toArray=pc at*
 generalize be:ds.toArray=qc at*
 obtain⟨ns,Z⟩:∃n,n=p.states.length:=⟨_,rfl⟩
 obtain⟨ni,a2⟩:∃n,n=p.initial.length:=⟨_,rfl⟩
 obtain⟨nt,a3⟩:∃n,n=q.start.length:=⟨_,rfl⟩
 obtain⟨nb,a5⟩:∃n,n=q.bad.length:=⟨_,rfl⟩
 obtain⟨na,a7⟩:∃n,n=q.adj.length:=⟨_,rfl⟩
 obtain⟨ng,a8⟩:∃n,n=q.goal.length:=⟨_,rfl⟩
 obtain⟨kq,aa⟩:∃n,n=q.kind:=⟨_,rfl⟩
 have C:=hide (show ns=p.states.length∧ni=p.initial.length∧nt=q.start.length∧nb=q.bad.length∧na=q.adj.length∧ng=q.goal.length∧kq=q.kind from⟨Z,a2,a3,a5,a7,a8,aa⟩)
 rw [←Z] at aB b4
 rw [←a2] at aC b5
 rw [←a3] at aU aY
 rw [←a5] at aV aZ
 rw [←a7] at aW b0
 rw [←a8] at aX b1
 rw [←aa] at aT
 clear Z a2 a3 a5 a7 a8 aa
 have av:=hide V
 have bf:∀f,Hid (PQX f w.heap.size w1.heap.size pc qc p q)→Calls Tryz.prog 22 #[.agg pc] f (Ret fun v w'=>v=.int .i64 (At Ab p)∧Below f.heap.size f w'):=fun f y=>Dt y.out.pr b6.out y.out.tab
 have bI:∀f,Below w.heap.size w f→Calls Tryz.prog 24 #[.slice B1 nt d1,.int .i64 (ns:Int)] f (Ret fun r w'=>r=.int .i64 (Aa q.start (ns:Int))∧Below f.heap.size f w'):=fun f y=>by
  rw [C.out.2.2.1]
  exact Bw (b8.out.keep (fun _ z=>y.cell z) y.size)
 have bJ:∀f,Below w.heap.size w f→Calls Tryz.prog 24 #[.slice B4 ng d4,.int .i64 (ns:Int)] f (Ret fun r w'=>r=.int .i64 (Aa q.goal (ns:Int))∧Below f.heap.size f w'):=fun f y=>by
  rw [C.out.2.2.2.2.2.1]
  exact Bw (bb.out.keep (fun _ z=>y.cell z) y.size)
 have bK:∀f x,Below w.heap.size w f→Calls Tryz.prog 25 #[.slice A5 ni c5,.int .i64 x] f fun r w'=>r=.returned (.bool (decide (x∈p.initial)))∧f=w':=fun f x y=>by
  rw [C.out.2.1]
  exact Dx (b7.out.keep (fun _ z=>y.cell z) y.size)
 have bL:∀f,Below w.heap.size w f→Calls Tryz.prog 28 #[.slice B2 nb d2,.int .i64 (ns:Int)] f (Ret fun r w'=>r=.int .i64 (Ah (Az (ns:Int)) q.bad)∧Below f.heap.size f w'):=fun f y=>by
  rw [C.out.2.2.2.1]
  exact DG (b9.out.keep (fun _ z=>y.cell z) (fun _ _ h=>h.keep (fun _ z=>y.cell z) y.size) y.size)
 have bM:∀f,Hid (PQX f w.heap.size w1.heap.size pc qc p q)→Below w.heap.size w f→Calls Tryz.prog 29 #[.agg pc,.slice B3 na d3] f (Ret fun r w'=>r=.int .i64 (Bb p.topo (ns:Int) q.adj)∧Below f.heap.size f w'):=fun f bg y=>by
  rw [C.out.2.2.2.2.1,C.out.1]
  exact DH bg.out.pr (ba.out.keep (fun _ z=>y.cell z) y.size)
 have bN:=G.out.b2.cell
 have bO:=G.out.b3.cell
 have bP:=Am G.out.b2 V
 have bh:=aj
 clear h1 h2 h3 h4 h5 h6 h7 k1 k2 k3 k4 h U J F O W ao ap bc M bd be hT V aS aj bh
 rw [←C.out.2.2.2.1] at hg
 rw [←C.out.2.2.2.2.1] at ah
 have bQ:¬(0:Int)<(nb:Int):=by omega
 have bR:(0:Int)<(na:Int):=by omega
 clear hg ah
 have bS:(kq==1)=false:=by rw [C.out.2.2.2.2.2.2,M.out]; rfl
 have bT:(kq != 2)=false:=by rw [C.out.2.2.2.2.2.2,M.out]; rfl
 go_enter Tryz.func12,Tryz.ntmps12
 go_wp2_with (first
  | (go_at_call 22; refine Calls.ret (bf _ G) ?_; rintro v w3 ⟨rfl,ab⟩; rw [ax.out]; have I:=hide (G.out.at ab); have bV:=I.out.b2.cell; have bW:=I.out.b3.cell; have bX:=Am I.out.b2 av.out; have aw:=hide (E.out.trans (ab.mono E.out.size)); clear ab)
  | (go_at_call 23; refine Calls.ret (CG q.name _ (by omega) I.out.tab) ?_; rintro v w4 ⟨rfl,ad⟩; rw [ay.out]; have ae:=hide (I.out.at ad); have bZ:=ae.out.b2.cell; have c0:=ae.out.b3.cell; have c8:=Am ae.out.b2 av.out; have bi:=hide (aw.out.trans (ad.mono aw.out.size)); clear ad))
 go_ret
 exact⟨rfl,bi.out⟩
end Go.Proofs.YtlakpndhhelliaaGreatDoor.K
