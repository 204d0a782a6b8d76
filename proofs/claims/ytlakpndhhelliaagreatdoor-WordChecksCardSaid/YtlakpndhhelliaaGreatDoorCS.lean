/-
  Part CS of a proof.
-/
import Derived.Test.YtlakpndhhelliaaGreatDoorPA
import Derived.Test.YtlakpndhhelliaaGreatDoorCQ
import Derived.Test.YtlakpndhhelliaaGreatDoorCR
import Derived.Test.YtlakpndhhelliaaGreatDoorCJ
set_option maxHeartbeats 16000000
set_option maxRecDepth 100000
set_option linter.unusedVariables false
set_option linter.unusedSimpArgs false
namespace Go.Proofs.YtlakpndhhelliaaGreatDoor.K
open Go.RowKit
theorem Fl {w:World} {cs:List Value} {p:Ao} (h:Ax w w.heap.size cs p) (f:p.Small) (y:AL w):
  Calls Tryz.prog 31 #[.agg cs.toArray] w (Ret fun v w'=>v=.int .i64 (At Ab p)∧Below w.heap.size w w'):=by
 by_cases ht:p.topo=1
 ·exact PP h f y ht
 ·exact MF h f y ht
end Go.Proofs.YtlakpndhhelliaaGreatDoor.K
namespace Go.Proofs.YtlakpndhhelliaaGreatDoor.K
open Go.RowKit
attribute [-go_sem] loadCellsFrom storeCells
theorem LW {w:World} {cs ds:List Value} {p:Ao} {q:Bd} (h:Ax w w.heap.size cs p) (J:BE w w.heap.size ds q) (G:p.Small) (E:q.Small) (hT:AL w) {e5:Int} (M:Hid (At Ab p=e5)) (an:(e5 != 0)=true):
  Calls Tryz.prog 14 #[.agg cs.toArray,.agg ds.toArray] w (Ret fun v w'=>v=.int .i64 (AJ Ab p q)∧Below w.heap.size w w'):=by
 obtain⟨A1,c1,A2,c2,A3,c3,A4,c4,A5,c5,A6,c6,A7,c7,O,bi,bj,aq,bk,bl,bm,bn,ar,bo,bp,h1,h2,h3,h4,h5,h6,h7,ab⟩:=h.cells
 obtain⟨B1,d1,B2,d2,B3,d3,B4,d4,aE,bu,aF,aG,aH,aJ,aK,k1,k2,k3,k4⟩:=J.cells
 have bv:=E.name
 have aL:=E.start
 have aM:=E.bad
 have aN:=E.adj
 have aO:=E.goal
 have aP:=G.states
 have aQ:=G.initial
 have aR:=hide G
 have aS:=hide h5
 have aT:=hide k1
 have bw:=hide k2
 have bx:=hide k3
 have aU:=hide k4
 obtain⟨w1,bz,I,ah,aV⟩:=Ag w cs.toArray 27
 obtain⟨w2,bA,U,ai,aW⟩:=Ag w1 ds.toArray 30
 have C:=hide (I.trans (U.mono I.size))
 have bB:=I.size
 have F:=hide (show PQX w2 w.heap.size w1.heap.size cs.toArray ds.toArray p q from⟨h.keep (fun _ z=>C.out.cell z) C.out.size,J.keep (fun _ z=>C.out.cell z) C.out.size,ah.below U,ai,hT.below C.out⟩)
 generalize aX:cs.toArray=pc at*
 generalize aY:ds.toArray=qc at*
 obtain⟨ns,V⟩:∃n,n=p.states.length:=⟨_,rfl⟩
 obtain⟨ni,W⟩:∃n,n=p.initial.length:=⟨_,rfl⟩
 obtain⟨nt,Z⟩:∃n,n=q.start.length:=⟨_,rfl⟩
 obtain⟨nb,a2⟩:∃n,n=q.bad.length:=⟨_,rfl⟩
 obtain⟨na,a3⟩:∃n,n=q.adj.length:=⟨_,rfl⟩
 obtain⟨ng,a4⟩:∃n,n=q.goal.length:=⟨_,rfl⟩
 obtain⟨kq,a5⟩:∃n,n=q.kind:=⟨_,rfl⟩
 have a6:=hide (show ns=p.states.length∧ni=p.initial.length∧nt=q.start.length∧nb=q.bad.length∧na=q.adj.length∧ng=q.goal.length∧kq=q.kind from⟨V,W,Z,a2,a3,a4,a5⟩)
 rw [←V] at aq aP
 rw [←W] at ar aQ
 rw [←Z] at aG aL
 rw [←a2] at aH aM
 rw [←a3] at aJ aN
 rw [←a4] at aK aO
 rw [←a5] at aF
 clear V W Z a2 a3 a4 a5
 have bC:=hide O
 have b4:∀f,Hid (PQX f w.heap.size w1.heap.size pc qc p q)→Calls Tryz.prog 31 #[.agg pc] f (Ret fun v w'=>v=.int .i64 (At Ab p)∧Below f.heap.size f w'):=fun f y=>Fl y.out.pr aR.out y.out.tab
 have bD:∀f,Below w.heap.size w f→Calls Tryz.prog 33 #[.slice B1 nt d1,.int .i64 (ns:Int)] f (Ret fun r w'=>r=.int .i64 (Aa q.start (ns:Int))∧Below f.heap.size f w'):=fun f y=>by
  rw [a6.out.2.2.1]
  exact AU (by omega) (aT.out.keep (fun _ z=>y.cell z) y.size)
 have bE:∀f,Below w.heap.size w f→Calls Tryz.prog 33 #[.slice B4 ng d4,.int .i64 (ns:Int)] f (Ret fun r w'=>r=.int .i64 (Aa q.goal (ns:Int))∧Below f.heap.size f w'):=fun f y=>by
  rw [a6.out.2.2.2.2.2.1]
  exact AU (by omega) (aU.out.keep (fun _ z=>y.cell z) y.size)
 have bF:∀f x,Below w.heap.size w f→Calls Tryz.prog 34 #[.slice A5 ni c5,.int .i64 x] f fun r w'=>r=.returned (.bool (decide (x∈p.initial)))∧f=w':=fun f x y=>by
  rw [a6.out.2.1]
  exact Fu (aS.out.keep (fun _ z=>y.cell z) y.size)
 have bG:=F.out.b2.cell
 have bH:=F.out.b3.cell
 have bI:=Am F.out.b2 O
 have b5:=ab
 clear h1 h2 h3 h4 h5 h6 h7 k1 k2 k3 k4 h J G E I U ah ai aV aW aX aY hT O aE ab b5
 go_enter Tryz.func14,Tryz.ntmps14
 go_wp2_with fail
 refine Calls.ret (b4 _ F) ?_; rintro v w3 ⟨rfl,a7⟩; rw [M.out]; have am:=hide (F.out.at a7); have bK:=am.out.b2.cell; have bL:=am.out.b3.cell; have b6:=hide (C.out.trans (a7.mono C.out.size)); clear a7; go_wp2_with fail
 go_ret
 exact⟨congrArg (Value.int .i64) ((IR (by rw [M.out]; simpa using an)).trans M.out).symm,b6.out⟩
theorem Mp {w:World} {cs ds:List Value} {p:Ao} {q:Bd} (h:Ax w w.heap.size cs p) (J:BE w w.heap.size ds q) (G:p.Small) (E:q.Small) (hT:AL w) (aa:Hid (At Ab p=0)) (ab:Hid (Ab q.name=false)):
  Calls Tryz.prog 14 #[.agg cs.toArray,.agg ds.toArray] w (Ret fun v w'=>v=.int .i64 (AJ Ab p q)∧Below w.heap.size w w'):=by
 obtain⟨A1,c1,A2,c2,A3,c3,A4,c4,A5,c5,A6,c6,A7,c7,M,bk,bl,au,bm,bn,bo,bp,av,bq,br,h1,h2,h3,h4,h5,h6,h7,ae⟩:=h.cells
 obtain⟨B1,d1,B2,d2,B3,d3,B4,d4,aG,bw,aH,aJ,aK,aL,aM,k1,k2,k3,k4⟩:=J.cells
 have bx:=E.name
 have aN:=E.start
 have aO:=E.bad
 have aP:=E.adj
 have aQ:=E.goal
 have aR:=G.states
 have aS:=G.initial
 have aT:=hide G
 have aU:=hide h5
 have aV:=hide k1
 have bz:=hide k2
 have bA:=hide k3
 have aW:=hide k4
 obtain⟨w1,bB,I,aj,aX⟩:=Ag w cs.toArray 27
 obtain⟨w2,bC,O,ak,aY⟩:=Ag w1 ds.toArray 30
 have C:=hide (I.trans (O.mono I.size))
 have bD:=I.size
 have F:=hide (show PQX w2 w.heap.size w1.heap.size cs.toArray ds.toArray p q from⟨h.keep (fun _ z=>C.out.cell z) C.out.size,J.keep (fun _ z=>C.out.cell z) C.out.size,aj.below O,ak,hT.below C.out⟩)
 generalize aZ:cs.toArray=pc at*
 generalize b0:ds.toArray=qc at*
 obtain⟨ns,U⟩:∃n,n=p.states.length:=⟨_,rfl⟩
 obtain⟨ni,V⟩:∃n,n=p.initial.length:=⟨_,rfl⟩
 obtain⟨nt,W⟩:∃n,n=q.start.length:=⟨_,rfl⟩
 obtain⟨nb,Z⟩:∃n,n=q.bad.length:=⟨_,rfl⟩
 obtain⟨na,a2⟩:∃n,n=q.adj.length:=⟨_,rfl⟩
 obtain⟨ng,a3⟩:∃n,n=q.goal.length:=⟨_,rfl⟩
 obtain⟨kq,a4⟩:∃n,n=q.kind:=⟨_,rfl⟩
 have a5:=hide (show ns=p.states.length∧ni=p.initial.length∧nt=q.start.length∧nb=q.bad.length∧na=q.adj.length∧ng=q.goal.length∧kq=q.kind from⟨U,V,W,Z,a2,a3,a4⟩)
 rw [←U] at au aR
 rw [←V] at av aS
 rw [←W] at aJ aN
 rw [←Z] at aK aO
 rw [←a2] at aL aP
 rw [←a3] at aM aQ
 rw [←a4] at aH
 clear U V W Z a2 a3 a4
 have bE:=hide M
 have b6:∀f,Hid (PQX f w.heap.size w1.heap.size pc qc p q)→Calls Tryz.prog 31 #[.agg pc] f (Ret fun v w'=>v=.int .i64 (At Ab p)∧Below f.heap.size f w'):=fun f y=>Fl y.out.pr aT.out y.out.tab
 have bF:∀f,Below w.heap.size w f→Calls Tryz.prog 33 #[.slice B1 nt d1,.int .i64 (ns:Int)] f (Ret fun r w'=>r=.int .i64 (Aa q.start (ns:Int))∧Below f.heap.size f w'):=fun f y=>by
  rw [a5.out.2.2.1]
  exact AU (by omega) (aV.out.keep (fun _ z=>y.cell z) y.size)
 have bG:∀f,Below w.heap.size w f→Calls Tryz.prog 33 #[.slice B4 ng d4,.int .i64 (ns:Int)] f (Ret fun r w'=>r=.int .i64 (Aa q.goal (ns:Int))∧Below f.heap.size f w'):=fun f y=>by
  rw [a5.out.2.2.2.2.2.1]
  exact AU (by omega) (aW.out.keep (fun _ z=>y.cell z) y.size)
 have bH:∀f x,Below w.heap.size w f→Calls Tryz.prog 34 #[.slice A5 ni c5,.int .i64 x] f fun r w'=>r=.returned (.bool (decide (x∈p.initial)))∧f=w':=fun f x y=>by
  rw [a5.out.2.1]
  exact Fu (aU.out.keep (fun _ z=>y.cell z) y.size)
 have bI:=F.out.b2.cell
 have bJ:=F.out.b3.cell
 have bK:=Am F.out.b2 M
 have b7:=ae
 clear h1 h2 h3 h4 h5 h6 h7 k1 k2 k3 k4 h J G E I O aj ak aX aY aZ b0 hT M aG ae b7
 go_enter Tryz.func14,Tryz.ntmps14
 go_wp2_with fail
 refine Calls.ret (b6 _ F) ?_; rintro v w3 ⟨rfl,a6⟩; rw [aa.out]; have a7:=hide (F.out.at a6); have bM:=a7.out.b2.cell; have bN:=a7.out.b3.cell; have ao:=hide (C.out.trans (a6.mono C.out.size)); clear a6; go_wp2_with fail
 refine Calls.ret (BK q.name _ (by omega)) ?_; rintro v w4 ⟨rfl,a8⟩; rw [ab.out]; have ap:=hide (a7.out.at a8); have bP:=ap.out.b2.cell; have bQ:=ap.out.b3.cell; have b8:=hide (ao.out.trans (a8.mono ao.out.size)); clear a8; go_wp2_with fail
 go_ret
 exact⟨congrArg (Value.int .i64) (Iz aa.out ab.out).symm,b8.out⟩
theorem Px {w:World} {cs ds:List Value} {p:Ao} {q:Bd} (h:Ax w w.heap.size cs p) (U:BE w w.heap.size ds q) (J:p.Small) (E:q.Small) (hT:AL w) (ae:Hid (At Ab p=0)) (af:Hid (Ab q.name=true)) (F:q.kind≠1) (G:q.kind≠2):
  Calls Tryz.prog 14 #[.agg cs.toArray,.agg ds.toArray] w (Ret fun v w'=>v=.int .i64 (AJ Ab p q)∧Below w.heap.size w w'):=by
 obtain⟨A1,c1,A2,c2,A3,c3,A4,c4,A5,c5,A6,c6,A7,c7,V,bl,bm,ax,bn,bo,bp,bq,ay,br,bs,h1,h2,h3,h4,h5,h6,h7,ah⟩:=h.cells
 obtain⟨B1,d1,B2,d2,B3,d3,B4,d4,aK,bx,aL,aM,aN,aO,aP,k1,k2,k3,k4⟩:=U.cells
 have bz:=E.name
 have aQ:=E.start
 have aR:=E.bad
 have aS:=E.adj
 have aT:=E.goal
 have aU:=J.states
 have aV:=J.initial
 have aW:=hide J
 have aX:=hide h5
 have aY:=hide k1
 have bA:=hide k2
 have bB:=hide k3
 have aZ:=hide k4
 obtain⟨w1,bC,M,am,F⟩:=Ag w cs.toArray 27
 obtain⟨w2,bD,W,an,G⟩:=Ag w1 ds.toArray 30
 have C:=hide (M.trans (W.mono M.size))
 have bE:=M.size
 have I:=hide (show PQX w2 w.heap.size w1.heap.size cs.toArray ds.toArray p q from⟨h.keep (fun _ z=>C.out.cell z) C.out.size,U.keep (fun _ z=>C.out.cell z) C.out.size,am.below W,an,hT.below C.out⟩)
 generalize b0:cs.toArray=pc at*
 generalize b1:ds.toArray=qc at*
 obtain⟨ns,Z⟩:∃n,n=p.states.length:=⟨_,rfl⟩
 obtain⟨ni,a2⟩:∃n,n=p.initial.length:=⟨_,rfl⟩
 obtain⟨nt,a3⟩:∃n,n=q.start.length:=⟨_,rfl⟩
 obtain⟨nb,a4⟩:∃n,n=q.bad.length:=⟨_,rfl⟩
 obtain⟨na,a5⟩:∃n,n=q.adj.length:=⟨_,rfl⟩
 obtain⟨ng,a6⟩:∃n,n=q.goal.length:=⟨_,rfl⟩
 obtain⟨kq,a8⟩:∃n,n=q.kind:=⟨_,rfl⟩
 have O:=hide (show ns=p.states.length∧ni=p.initial.length∧nt=q.start.length∧nb=q.bad.length∧na=q.adj.length∧ng=q.goal.length∧kq=q.kind from⟨Z,a2,a3,a4,a5,a6,a8⟩)
 rw [←Z] at ax aU
 rw [←a2] at ay aV
 rw [←a3] at aM aQ
 rw [←a4] at aN aR
 rw [←a5] at aO aS
 rw [←a6] at aP aT
 rw [←a8] at aL
 clear Z a2 a3 a4 a5 a6 a8
 have bF:=hide V
 have b6:∀f,Hid (PQX f w.heap.size w1.heap.size pc qc p q)→Calls Tryz.prog 31 #[.agg pc] f (Ret fun v w'=>v=.int .i64 (At Ab p)∧Below f.heap.size f w'):=fun f y=>Fl y.out.pr aW.out y.out.tab
 have bG:∀f,Below w.heap.size w f→Calls Tryz.prog 33 #[.slice B1 nt d1,.int .i64 (ns:Int)] f (Ret fun r w'=>r=.int .i64 (Aa q.start (ns:Int))∧Below f.heap.size f w'):=fun f y=>by
  rw [O.out.2.2.1]
  exact AU (by omega) (aY.out.keep (fun _ z=>y.cell z) y.size)
 have bH:∀f,Below w.heap.size w f→Calls Tryz.prog 33 #[.slice B4 ng d4,.int .i64 (ns:Int)] f (Ret fun r w'=>r=.int .i64 (Aa q.goal (ns:Int))∧Below f.heap.size f w'):=fun f y=>by
  rw [O.out.2.2.2.2.2.1]
  exact AU (by omega) (aZ.out.keep (fun _ z=>y.cell z) y.size)
 have bI:∀f x,Below w.heap.size w f→Calls Tryz.prog 34 #[.slice A5 ni c5,.int .i64 x] f fun r w'=>r=.returned (.bool (decide (x∈p.initial)))∧f=w':=fun f x y=>by
  rw [O.out.2.1]
  exact Fu (aX.out.keep (fun _ z=>y.cell z) y.size)
 have bJ:=I.out.b2.cell
 have bK:=I.out.b3.cell
 have bL:=Am I.out.b2 V
 have b7:=ah
 clear h1 h2 h3 h4 h5 h6 h7 k1 k2 k3 k4 h U J E M W am an F G b0 b1 hT V aK ah b7
 have b8:=hide (Jc ae.out af.out F G)
 rw [←O.out.2.2.2.2.2.2] at F G
 have bM:(kq != 1)=true:=by simp [F]
 have bN:(kq != 2)=true:=by simp [G]
 clear F G
 go_enter Tryz.func14,Tryz.ntmps14
 go_wp2_with fail
 refine Calls.ret (b6 _ I) ?_; rintro v w3 ⟨rfl,a9⟩; rw [ae.out]; have aa:=hide (I.out.at a9); have bP:=aa.out.b2.cell; have bQ:=aa.out.b3.cell; have ar:=hide (C.out.trans (a9.mono C.out.size)); clear a9; go_wp2_with fail
 refine Calls.ret (BK q.name _ (by omega)) ?_; rintro v w4 ⟨rfl,ab⟩; rw [af.out]; have au:=hide (aa.out.at ab); have bS:=au.out.b2.cell; have bT:=au.out.b3.cell; have b9:=hide (ar.out.trans (ab.mono ar.out.size)); clear ab; go_wp2_with fail
 go_ret
 exact⟨congrArg (Value.int .i64) (b8.out).symm,b9.out⟩
end Go.Proofs.YtlakpndhhelliaaGreatDoor.K
namespace Go.Proofs.YtlakpndhhelliaaGreatDoor.K
open Go.RowKit
attribute [-go_sem] loadCellsFrom storeCells
theorem MX {w:World} {cs ds:List Value} {p:Ao} {q:Bd} (h:Ax w w.heap.size cs p) (h':BE w w.heap.size ds q) (ai:p.Small) (Z:q.Small) (hT:AL w) (aj:Hid (At Ab p=0)) (a2:Hid (Ab q.name=true)) (M:Hid (q.kind=2)):
  Calls Tryz.prog 14 #[.agg cs.toArray,.agg ds.toArray] w (Ret fun v w'=>v=.int .i64 (AJ Ab p q)∧Below w.heap.size w w'):=by
 obtain⟨A1,c1,A2,c2,A3,c3,A4,c4,A5,c5,A6,c6,A7,c7,aq,cm,cn,bh,co,cp,cq,cr,bi,ct,cu,h1,h2,h3,h4,h5,h6,h7,aQ⟩:=h.cells
 obtain⟨B1,d1,B2,d2,B3,d3,B4,d4,br,cz,bs,bt,bu,bv,bw,k1,k2,k3,k4⟩:=h'.cells
 have cA:=Z.name
 have bx:=Z.start
 have bz:=Z.bad
 have bA:=Z.adj
 have bB:=Z.goal
 have bC:=ai.states
 have bD:=ai.initial
 have bE:=hide ai
 have bF:=hide h5
 have aV:=hide k1
 have cB:=hide k2
 have cD:=hide k3
 have bG:=hide k4
 obtain⟨w1,cE,ak,aW,bH⟩:=Ag w cs.toArray 27
 obtain⟨w2,cF,au,aX,M⟩:=Ag w1 ds.toArray 30
 have U:=hide (ak.trans (au.mono ak.size))
 have cG:=ak.size
 have ab:=hide (show PQX w2 w.heap.size w1.heap.size cs.toArray ds.toArray p q from⟨h.keep (fun _ E=>U.out.cell E) U.out.size,h'.keep (fun _ E=>U.out.cell E) U.out.size,aW.below au,aX,hT.below U.out⟩)
 generalize bI:cs.toArray=pc at*
 generalize bJ:ds.toArray=qc at*
 obtain⟨ns,av⟩:∃n,n=p.states.length:=⟨_,rfl⟩
 obtain⟨ni,aw⟩:∃n,n=p.initial.length:=⟨_,rfl⟩
 obtain⟨nt,ax⟩:∃n,n=q.start.length:=⟨_,rfl⟩
 obtain⟨nb,ay⟩:∃n,n=q.bad.length:=⟨_,rfl⟩
 obtain⟨na,az⟩:∃n,n=q.adj.length:=⟨_,rfl⟩
 obtain⟨ng,aA⟩:∃n,n=q.goal.length:=⟨_,rfl⟩
 obtain⟨kq,aB⟩:∃n,n=q.kind:=⟨_,rfl⟩
 have y:=hide (show ns=p.states.length∧ni=p.initial.length∧nt=q.start.length∧nb=q.bad.length∧na=q.adj.length∧ng=q.goal.length∧kq=q.kind from⟨av,aw,ax,ay,az,aA,aB⟩)
 rw [←av] at bh bC
 rw [←aw] at bi bD
 rw [←ax] at bt bx
 rw [←ay] at bu bz
 rw [←az] at bv bA
 rw [←aA] at bw bB
 rw [←aB] at bs
 clear av aw ax ay az aA aB
 have cH:=hide aq
 have bK:∀f,Hid (PQX f w.heap.size w1.heap.size pc qc p q)→Calls Tryz.prog 31 #[.agg pc] f (Ret fun v w'=>v=.int .i64 (At Ab p)∧Below f.heap.size f w'):=fun f z=>Fl z.out.pr bE.out z.out.tab
 have b1:∀f,Below w.heap.size w f→Calls Tryz.prog 33 #[.slice B1 nt d1,.int .i64 (ns:Int)] f (Ret fun r w'=>r=.int .i64 (Aa q.start (ns:Int))∧Below f.heap.size f w'):=fun f z=>by
  rw [y.out.2.2.1]
  exact AU (by omega) (aV.out.keep (fun _ E=>z.cell E) z.size)
 have aC:∀f,Below w.heap.size w f→Calls Tryz.prog 33 #[.slice B4 ng d4,.int .i64 (ns:Int)] f (Ret fun r w'=>r=.int .i64 (Aa q.goal (ns:Int))∧Below f.heap.size f w'):=fun f z=>by
  rw [y.out.2.2.2.2.2.1]
  exact AU (by omega) (bG.out.keep (fun _ E=>z.cell E) z.size)
 have bL:∀f x,Below w.heap.size w f→Calls Tryz.prog 34 #[.slice A5 ni c5,.int .i64 x] f fun r w'=>r=.returned (.bool (decide (x∈p.initial)))∧f=w':=fun f x z=>by
  rw [y.out.2.1]
  exact Fu (bF.out.keep (fun _ E=>z.cell E) z.size)
 have cJ:=ab.out.b2.cell
 have cK:=ab.out.b3.cell
 have cL:=Am ab.out.b2 aq
 have bM:=aQ
 clear h1 h2 h3 h4 h5 h6 h7 k1 k2 k3 k4 h h' ai Z ak au aW aX bH M bI bJ hT aq br aQ bM
 have bN:(kq != 1)=true:=by rw [y.out.2.2.2.2.2.2,M.out]; rfl
 have bO:(kq != 2)=false:=by rw [y.out.2.2.2.2.2.2,M.out]; rfl
 have bP:(kq==1)=false:=by rw [y.out.2.2.2.2.2.2,M.out]; rfl
 have cM:(kq==2)=true:=by rw [y.out.2.2.2.2.2.2,M.out]; rfl
 go_enter Tryz.func14,Tryz.ntmps14
 go_wp2_with fail
 refine Calls.ret (bK _ ab) ?_; rintro v w3 ⟨rfl,aD⟩; rw [aj.out]; have af:=hide (ab.out.at aD); have cQ:=af.out.b2.cell; have cR:=af.out.b3.cell; have a4:=hide (U.out.trans (aD.mono U.out.size)); clear aD; go_wp2_with fail
 by_cases bQ:(0:Int)<(nb:Int)
 case pos=>
  refine Calls.ret (BK q.name _ (by omega)) ?_; rintro v w4 ⟨rfl,F⟩; rw [a2.out]; have I:=hide (af.out.at F); have b5:=I.out.b2.cell; have b6:=I.out.b3.cell; have J:=hide (a4.out.trans (F.mono a4.out.size)); clear F; go_wp2_with fail
  go_ret
  exact⟨congrArg (Value.int .i64) (F4 aj.out a2.out M.out (.inl (by have:=y.out.2.2.2.1; omega))).symm,J.out⟩
 by_cases bR:(0:Int)<(na:Int)
 case pos=>
  refine Calls.ret (BK q.name _ (by omega)) ?_; rintro v w4 ⟨rfl,F⟩; rw [a2.out]; have I:=hide (af.out.at F); have b5:=I.out.b2.cell; have b6:=I.out.b3.cell; have J:=hide (a4.out.trans (F.mono a4.out.size)); clear F; go_wp2_with fail
  go_ret
  exact⟨congrArg (Value.int .i64) (F4 aj.out a2.out M.out (.inr (by have:=y.out.2.2.2.2.1; omega))).symm,J.out⟩
 have hV:=hide (GF aj.out a2.out M.out (by have:=y.out.2.2.2.1; omega) (by have:=y.out.2.2.2.2.1; omega))
 refine Calls.ret (BK q.name _ (by omega)) ?_; rintro v w4 ⟨rfl,F⟩; rw [a2.out]; have I:=hide (af.out.at F); have b5:=I.out.b2.cell; have b6:=I.out.b3.cell; have J:=hide (a4.out.trans (F.mono a4.out.size)); clear F; go_wp2_with fail
 clear bQ bR bN bO bP
 obtain⟨e6,al⟩:∃e,Hid (Aa q.start (ns:Int)=e):=⟨_,rfl⟩
 by_cases a5:e6=0
 case neg=>
  have Q6:(e6 != 0)=true:=by simp [a5]
  have H6:=hide a5
  clear a5
  refine Calls.ret (b1 _ J.out) ?_; rintro v w5 ⟨rfl,V⟩; rw [al.out]; have a6:=hide (I.out.at V); have bS:=a6.out.b2.cell; have bT:=a6.out.b3.cell; have am:=hide (J.out.trans (V.mono J.out.size)); clear V; go_wp2_with fail
  go_ret
  exact⟨congrArg (Value.int .i64) (hV.out.trans (by rw [←y.out.1,al.out]; exact Bz H6.out)).symm,am.out⟩
 have Q6:(e6 != 0)=false:=by simp [a5]
 have H6:=hide a5
 clear a5
 have hR:=hide (show AJ Ab p q=orE (Ac (!Cn p q) 5) (DW p q) from hV.out.trans (by rw [←y.out.1,al.out,H6.out]; rfl))
 refine Calls.ret (b1 _ J.out) ?_; rintro v w5 ⟨rfl,V⟩; rw [al.out]; have a6:=hide (I.out.at V); have bS:=a6.out.b2.cell; have bT:=a6.out.b3.cell; have am:=hide (J.out.trans (V.mono J.out.size)); clear V; go_wp2_with fail
 clear Q6
 go_loopw [8] (fun ii wr=>∃(k:Nat),ii=.int .i64 (k:Int)∧k≤nt∧Hid (Below w5.heap.size w5 wr)∧Hid ((q.start.take k).all (fun x=>decide (x∈p.initial))=true)) (fun ii _=>nt - (intOf ii).toNat)
 case atStart=>exact⟨0,rfl,Nat.zero_le _,Below.refl _ _,by show _=_; simp⟩
 case round=>
  obtain⟨k,rfl,hk,an,hE⟩:=hrel
  have ag:=hide (a6.out.at an.out)
  have cS:=ag.out.b2.cell
  have cT:=ag.out.b3.cell
  have C:=hide (am.out.trans (an.out.mono am.out.size))
  by_cases cU:k<nt
  ·obtain⟨b,cV,x,hA,cW,z,W⟩:=(aV.out.keep (w':=wr) (B':=w.heap.size) (fun _ E=>C.out.cell E) (Nat.le_refl _)).at (k:=k) (by have:=y.out.2.2.1; omega)
   have d0:=W 0 (by omega)
   simp only [Nat.add_zero,Nat.mul_one,Ai] at d0
   have ba:=hide z
   have bW:=hide (an.out.trans ((Ap wr).mono an.out.size))
   have bb:=hide (C.out.trans ((Ap wr).mono C.out.size))
   subst hA
   clear W z
   have W:=hide (bL _ x bb.out)
   cases hv:decide (x∈p.initial)
   ·have bX:=hide (show Cn p q=false from by
     unfold Cn
     rw [List.all_eq_false]
     exact⟨x,List.mem_of_getElem? ba.out,by rw [hv]; decide⟩)
    rw [hv] at W
    clear hv
    go_wp2_with fail
    refine Reg.cP [0,1,0,4,0,28,60,127,255] ?_
    go_wp2_with (go_at_call 34; refine W.out.mono ?_; rintro r w' ⟨rfl,rfl⟩)
    go_ret
    exact⟨congrArg (Value.int .i64) (hR.out.trans (by rw [bX.out]; rfl)).symm,bb.out⟩
   ·have bY:=hide (BP (p:=fun x=>decide (x∈p.initial)) ba.out hE.out hv)
    rw [hv] at W
    clear hv
    go_wp2_with fail
    refine Reg.cP [0,1,0,4,0,28,60,127,255] ?_
    go_wp2_with (go_at_call 34; refine W.out.mono ?_; rintro r w' ⟨rfl,rfl⟩)
    exact⟨⟨k+1,by go_num,by omega,bW.out,bY.out⟩,by simp [intOf]; omega⟩
  ·have bZ:=hide (show Cn p q=true from by
    have h1:=y.out.2.2.1
    have h2:=hE.out
    rwa [List.take_of_length_le (by omega)] at h2)
   have c0:=hide (show AJ Ab p q=DW p q from by rw [hR.out,bZ.out]; rfl)
   clear hE
   go_wp2_with fail
   have aK:=hide (show AJ Ab p q=orE (Aa q.goal (ns:Int)) (Ac (decide (ng=0)) 1) from c0.out.trans (by
    unfold DW
    rw [Bn q.goal,←y.out.2.2.2.2.2.1,←y.out.1]))
   obtain⟨eg,a8⟩:∃e,Hid (Aa q.goal (ns:Int)=e):=⟨_,rfl⟩
   by_cases a9:eg=0
   case neg=>
    have Qg:(eg != 0)=true:=by simp [a9]
    have Hg:=hide a9
    clear a9
    refine Calls.ret (aC _ C.out) ?_; rintro v w7 ⟨rfl,G⟩; rw [a8.out]; have O:=hide (ag.out.at G); have bd:=O.out.b2.cell; have be:=O.out.b3.cell; have ah:=hide (C.out.trans (G.mono C.out.size)); clear G; go_wp2_with fail
    go_ret
    exact⟨congrArg (Value.int .i64) (aK.out.trans (by rw [a8.out]; exact Bz Hg.out)).symm,ah.out⟩
   have Qg:(eg != 0)=false:=by simp [a9]
   have Hg:=hide a9
   clear a9
   by_cases aa:ng=0
   ·have Qn:((ng:Int)==0)=true:=by simp [aa]
    have Hn:=hide aa
    clear aa
    refine Calls.ret (aC _ C.out) ?_; rintro v w7 ⟨rfl,G⟩; rw [a8.out]; have O:=hide (ag.out.at G); have bd:=O.out.b2.cell; have be:=O.out.b3.cell; have ah:=hide (C.out.trans (G.mono C.out.size)); clear G; go_wp2_with fail
    go_ret
    exact⟨congrArg (Value.int .i64) (aK.out.trans (by rw [a8.out,Hg.out,decide_eq_true Hn.out]; rfl)).symm,ah.out⟩
   ·have Qn:((ng:Int)==0)=false:=by simp [aa]
    have Hn:=hide aa
    clear aa
    refine Calls.ret (aC _ C.out) ?_; rintro v w7 ⟨rfl,G⟩; rw [a8.out]; have O:=hide (ag.out.at G); have bd:=O.out.b2.cell; have be:=O.out.b3.cell; have ah:=hide (C.out.trans (G.mono C.out.size)); clear G; go_wp2_with fail
    go_ret
    exact⟨congrArg (Value.int .i64) (aK.out.trans (by rw [a8.out,Hg.out,decide_eq_false Hn.out]; rfl)).symm,ah.out⟩
end Go.Proofs.YtlakpndhhelliaaGreatDoor.K
