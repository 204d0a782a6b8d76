/-
  Part CU of a proof.
-/
import Derived.Test.YtfcfpoemojjglaaGreatDoorPA
import Derived.Test.YtfcfpoemojjglaaGreatDoorCJ
set_option maxHeartbeats 16000000
set_option maxRecDepth 100000
set_option linter.unusedVariables false
set_option linter.unusedSimpArgs false
namespace Go.Proofs.YtfcfpoemojjglaaGreatDoor.K
open Go.RowKit
attribute [-go_sem] loadCellsFrom storeCells
theorem D7 {w w1 w2:World} {G I:Array Value} {p:Am} {q:AB} {A1 J M O U V:Option Addr} {c1 W Z d2 d3 d4 ns ni nt nb na ng:Nat} {kq:Int} (H:PQH w w1 w2 G I p q A1 c1 J W M Z O d2 U d3 V d4 ns ni nt nb na ng kq):
    (∀y,Hid (PQX y w.heap.size w1.heap.size G I p q)→Calls Tryz.prog 117 #[.agg G] y (Ret fun v w'=>v=.int .i64 (protE nameOK p)∧Below y.heap.size y w'))∧
    (∀y,Below w.heap.size w y→Calls Tryz.prog 119 #[.slice M nt Z,.int .i64 (ns:Int)] y (Ret fun r w'=>r=.int .i64 (setE q.start (ns:Int))∧Below y.heap.size y w'))∧
    (∀y,Below w.heap.size w y→Calls Tryz.prog 119 #[.slice V ng d4,.int .i64 (ns:Int)] y (Ret fun r w'=>r=.int .i64 (setE q.goal (ns:Int))∧Below y.heap.size y w'))∧
    (∀y x,Below w.heap.size w y→Calls Tryz.prog 74 #[.slice J ni W,.int .i64 x] y fun r w'=>r=.returned (.bool (decide (x∈p.initial)))∧y=w')∧
    (∀y,Below w.heap.size w y→Calls Tryz.prog 122 #[.slice O nb d2,.int .i64 (ns:Int)] y (Ret fun r w'=>r=.int .i64 (Aj (AV (ns:Int)) q.bad)∧Below y.heap.size y w'))∧
    (∀y,Hid (PQX y w.heap.size w1.heap.size G I p q)→Below w.heap.size w y→Calls Tryz.prog 123 #[.agg G,.slice U na d3] y (Ret fun r w'=>r=.int .i64 (BA p.topo (ns:Int) q.adj)∧Below y.heap.size y w')):=by
  obtain⟨-,-,-,-,-,E,ai,⟨ag,ab,ad,ae,af⟩,-,⟨-,-,-,-,-,ak,-⟩,-,-⟩:=H
  exact⟨fun y z=>Kt z.out.pr ai.out z.out.tab,
   fun y z=>by
    rw [E.out.2.2.1]
    exact DE (ab.out.keep (fun _ C=>z.cell C) z.size),
   fun y z=>by
    rw [E.out.2.2.2.2.2.1]
    exact DE (af.out.keep (fun _ C=>z.cell C) z.size),
   fun y x z=>by
    rw [E.out.2.1]
    exact containsI_any (ag.out.keep (fun _ C=>z.cell C) z.size),
   fun y z=>by
    rw [E.out.2.2.2.1]
    exact Nb (ad.out.keep (fun _ C=>z.cell C) (fun _ _ h=>h.keep (fun _ C=>z.cell C) z.size) z.size),
   fun y ah z=>by
    rw [E.out.2.2.2.2.1,E.out.1]
    exact L6 ah.out.pr (ae.out.keep (fun _ C=>z.cell C) z.size)⟩
theorem T4 {w:World} {cs ds:List Value} {p:Am} {q:AB} (h:At w w.heap.size cs p) (G:Ba w w.heap.size ds q) (O:p.Small) (U:q.Small) (I:SpOK w) {z:Int} (W:Hid (protE nameOK p=z)) (aC:(z != 0)=true):
  Calls Tryz.prog 71 #[.agg cs.toArray,.agg ds.toArray] w (Ret fun v w'=>v=.int .i64 (z)∧Below w.heap.size w w'):=by
 obtain⟨w1,w2,A1,c1,A5,c5,B1,d1,B2,d2,B3,d3,B4,d4,ns,ni,nt,nb,na,ng,kq,H⟩:=Dj h G O U I
 generalize cs.toArray=pc at*
 generalize ds.toArray=qc at*
 clear h G O U I
 obtain⟨Z,aQ,ar,ap,aq,ak⟩:=D7 H
 obtain⟨aR,aS,J,aO,y,ai,aP,⟨aj,ae,af,ag,ah⟩,M,⟨aD,aw,ax,ay,az,aA,aB⟩,⟨aE,aF,aG⟩,aH,aJ,aK,aL,aM,aN⟩:=H
 have al:=y.out.b2.cell
 have an:=y.out.b3.cell
 have au:=Ah y.out.b2 M.out
 go_enter Tryz.func71,Tryz.ntmps71
 go_wp2_with (first
  | (go_at_call 117; refine Calls.ret (Z _ y) ?_; rintro v w3 ⟨rfl,E⟩; rw [W.out]; have C:=hide (y.out.at E); have am:=C.out.b2.cell; have ao:=C.out.b3.cell; have av:=Ah C.out.b2 M.out; have V:=hide (J.out.trans (E.mono J.out.size)); clear E))
 go_ret
 exact⟨rfl,V.out⟩
theorem T5 {w:World} {cs ds:List Value} {p:Am} {q:AB} (h:At w w.heap.size cs p) (J:Ba w w.heap.size ds q) (V:p.Small) (W:q.Small) (M:SpOK w) (a2:Hid (protE nameOK p=0)) (a3:Hid (nameOK q.name=false)):
  Calls Tryz.prog 71 #[.agg cs.toArray,.agg ds.toArray] w (Ret fun v w'=>v=.int .i64 (2)∧Below w.heap.size w w'):=by
 obtain⟨w1,w2,A1,c1,A5,c5,B1,d1,B2,d2,B3,d3,B4,d4,ns,ni,nt,nb,na,ng,kq,H⟩:=Dj h J V W M
 generalize cs.toArray=pc at*
 generalize ds.toArray=qc at*
 clear h J V W M
 obtain⟨a4,aV,ay,aw,ax,an⟩:=D7 H
 obtain⟨aW,aX,O,aT,y,al,aU,⟨am,ah,ai,aj,ak⟩,I,⟨aJ,aC,aD,aE,aF,aG,aH⟩,⟨aK,aL,aM⟩,aN,aO,aP,aQ,aR,aS⟩:=H
 have ao:=y.out.b2.cell
 have ar:=y.out.b3.cell
 have az:=Ah y.out.b2 I.out
 go_enter Tryz.func71,Tryz.ntmps71
 go_wp2_with (first
  | (go_at_call 117; refine Calls.ret (a4 _ y) ?_; rintro v w3 ⟨rfl,E⟩; rw [a2.out]; have z:=hide (y.out.at E); have ap:=z.out.b2.cell; have au:=z.out.b3.cell; have aA:=Ah z.out.b2 I.out; have U:=hide (O.out.trans (E.mono O.out.size)); clear E)
  | (go_at_call 118; refine Calls.ret (Da q.name _ (by omega) z.out.tab) ?_; rintro v w4 ⟨rfl,G⟩; rw [a3.out]; have C:=hide (z.out.at G); have aq:=C.out.b2.cell; have av:=C.out.b3.cell; have aB:=Ah C.out.b2 I.out; have Z:=hide (U.out.trans (G.mono U.out.size)); clear G))
 go_ret
 exact⟨rfl,Z.out⟩
theorem T6 {w:World} {cs ds:List Value} {p:Am} {q:AB} (h:At w w.heap.size cs p) (O:Ba w w.heap.size ds q) (Z:p.Small) (a2:q.Small) (U:SpOK w) (a6:Hid (protE nameOK p=0)) (a7:Hid (nameOK q.name=true)) (I:q.kind≠1) (J:q.kind≠2):
  Calls Tryz.prog 71 #[.agg cs.toArray,.agg ds.toArray] w (Ret fun v w'=>v=.int .i64 (1)∧Below w.heap.size w w'):=by
 obtain⟨w1,w2,A1,c1,A5,c5,B1,d1,B2,d2,B3,d3,B4,d4,ns,ni,nt,nb,na,ng,kq,H⟩:=Dj h O Z a2 U
 generalize cs.toArray=pc at*
 generalize ds.toArray=qc at*
 clear h O Z a2 U
 obtain⟨a8,aY,aB,az,aA,aq⟩:=D7 H
 obtain⟨aZ,b0,V,aW,y,a4,aX,⟨ap,al,am,an,ao⟩,M,⟨aM,aF,aG,aH,aJ,aK,aL⟩,⟨aN,aO,aP⟩,aQ,aR,aS,aT,aU,aV⟩:=H
 have ar:=y.out.b2.cell
 have aw:=y.out.b3.cell
 have aC:=Ah y.out.b2 M.out
 rw [←a4.out.2.2.2.2.2.2] at I J
 have b1:(kq==1)=false:=by simp [I]
 have b4:(kq != 2)=true:=by simp [J]
 clear I J
 go_enter Tryz.func71,Tryz.ntmps71
 go_wp2_with (first
  | (go_at_call 117; refine Calls.ret (a8 _ y) ?_; rintro v w3 ⟨rfl,E⟩; rw [a6.out]; have z:=hide (y.out.at E); have au:=z.out.b2.cell; have ax:=z.out.b3.cell; have aD:=Ah z.out.b2 M.out; have W:=hide (V.out.trans (E.mono V.out.size)); clear E)
  | (go_at_call 118; refine Calls.ret (Da q.name _ (by omega) z.out.tab) ?_; rintro v w4 ⟨rfl,G⟩; rw [a7.out]; have C:=hide (z.out.at G); have av:=C.out.b2.cell; have ay:=C.out.b3.cell; have aE:=Ah C.out.b2 M.out; have a5:=hide (W.out.trans (G.mono W.out.size)); clear G))
 go_ret
 exact⟨rfl,a5.out⟩
theorem T7 {w:World} {cs ds:List Value} {p:Am} {q:AB} (h:At w w.heap.size cs p) (J:Ba w w.heap.size ds q) (Z:p.Small) (a2:q.Small) (O:SpOK w) (a4:Hid (protE nameOK p=0)) (a6:Hid (nameOK q.name=true)) (a5:Hid (q.kind=1)) (W:q.goal.length≠0):
  Calls Tryz.prog 71 #[.agg cs.toArray,.agg ds.toArray] w (Ret fun v w'=>v=.int .i64 (1)∧Below w.heap.size w w'):=by
 obtain⟨w1,w2,A1,c1,A5,c5,B1,d1,B2,d2,B3,d3,B4,d4,ns,ni,nt,nb,na,ng,kq,H⟩:=Dj h J Z a2 O
 generalize cs.toArray=pc at*
 generalize ds.toArray=qc at*
 clear h J Z a2 O
 obtain⟨a7,b0,aD,aA,aB,ar⟩:=D7 H
 obtain⟨b1,b4,U,aY,y,M,aZ,⟨aq,am,an,ao,ap⟩,I,⟨aO,aH,aJ,aK,aL,aM,aN⟩,⟨aP,aQ,aR⟩,aS,aT,aU,aV,aW,aX⟩:=H
 have au:=y.out.b2.cell
 have ax:=y.out.b3.cell
 have aE:=Ah y.out.b2 I.out
 rw [←M.out.2.2.2.2.2.1] at W
 have aC:(0:Int)<(ng:Int):=by omega
 clear W
 have b5:(kq==1)=true:=by rw [M.out.2.2.2.2.2.2,a5.out]; rfl
 go_enter Tryz.func71,Tryz.ntmps71
 go_wp2_with (first
  | (go_at_call 117; refine Calls.ret (a7 _ y) ?_; rintro v w3 ⟨rfl,E⟩; rw [a4.out]; have z:=hide (y.out.at E); have av:=z.out.b2.cell; have ay:=z.out.b3.cell; have aF:=Ah z.out.b2 I.out; have V:=hide (U.out.trans (E.mono U.out.size)); clear E)
  | (go_at_call 118; refine Calls.ret (Da q.name _ (by omega) z.out.tab) ?_; rintro v w4 ⟨rfl,G⟩; rw [a6.out]; have C:=hide (z.out.at G); have aw:=C.out.b2.cell; have az:=C.out.b3.cell; have aG:=Ah C.out.b2 I.out; have a3:=hide (V.out.trans (G.mono V.out.size)); clear G))
 go_ret
 exact⟨rfl,a3.out⟩
theorem T8 {w:World} {cs ds:List Value} {p:Am} {q:AB} (h:At w w.heap.size cs p) (M:Ba w w.heap.size ds q) (a2:p.Small) (a3:q.Small) (O:SpOK w) (a6:Hid (protE nameOK p=0)) (a7:Hid (nameOK q.name=true)) (Z:Hid (q.kind=2)) (W:q.bad.length≠0):
  Calls Tryz.prog 71 #[.agg cs.toArray,.agg ds.toArray] w (Ret fun v w'=>v=.int .i64 (1)∧Below w.heap.size w w'):=by
 obtain⟨w1,w2,A1,c1,A5,c5,B1,d1,B2,d2,B3,d3,B4,d4,ns,ni,nt,nb,na,ng,kq,H⟩:=Dj h M a2 a3 O
 generalize cs.toArray=pc at*
 generalize ds.toArray=qc at*
 clear h M a2 a3 O
 obtain⟨a8,b0,aD,aA,aB,ar⟩:=D7 H
 obtain⟨b1,b4,U,aY,y,C,aZ,⟨aq,am,an,ao,ap⟩,J,⟨aO,aH,aJ,aK,aL,aM,aN⟩,⟨aP,aQ,aR⟩,aS,aT,aU,aV,aW,aX⟩:=H
 have au:=y.out.b2.cell
 have ax:=y.out.b3.cell
 have aE:=Ah y.out.b2 J.out
 rw [←C.out.2.2.2.1] at W
 have aC:(0:Int)<(nb:Int):=by omega
 clear W
 have b5:(kq==1)=false:=by rw [C.out.2.2.2.2.2.2,Z.out]; rfl
 have b6:(kq != 2)=false:=by rw [C.out.2.2.2.2.2.2,Z.out]; rfl
 go_enter Tryz.func71,Tryz.ntmps71
 go_wp2_with (first
  | (go_at_call 117; refine Calls.ret (a8 _ y) ?_; rintro v w3 ⟨rfl,G⟩; rw [a6.out]; have z:=hide (y.out.at G); have av:=z.out.b2.cell; have ay:=z.out.b3.cell; have aF:=Ah z.out.b2 J.out; have V:=hide (U.out.trans (G.mono U.out.size)); clear G)
  | (go_at_call 118; refine Calls.ret (Da q.name _ (by omega) z.out.tab) ?_; rintro v w4 ⟨rfl,I⟩; rw [a7.out]; have E:=hide (z.out.at I); have aw:=E.out.b2.cell; have az:=E.out.b3.cell; have aG:=Ah E.out.b2 J.out; have a5:=hide (V.out.trans (I.mono V.out.size)); clear I))
 go_ret
 exact⟨rfl,a5.out⟩
theorem T9 {w:World} {cs ds:List Value} {p:Am} {q:AB} (h:At w w.heap.size cs p) (M:Ba w w.heap.size ds q) (a3:p.Small) (a4:q.Small) (O:SpOK w) (a7:Hid (protE nameOK p=0)) (a8:Hid (nameOK q.name=true)) (a2:Hid (q.kind=2)) (W:q.bad.length=0) (Z:q.adj.length≠0):
  Calls Tryz.prog 71 #[.agg cs.toArray,.agg ds.toArray] w (Ret fun v w'=>v=.int .i64 (1)∧Below w.heap.size w w'):=by
 obtain⟨w1,w2,A1,c1,A5,c5,B1,d1,B2,d2,B3,d3,B4,d4,ns,ni,nt,nb,na,ng,kq,H⟩:=Dj h M a3 a4 O
 generalize cs.toArray=pc at*
 generalize ds.toArray=qc at*
 clear h M a3 a4 O
 obtain⟨a9,b5,aG,aC,aD,av⟩:=D7 H
 obtain⟨b6,b7,U,b1,y,C,b4,⟨au,ao,ap,aq,ar⟩,J,⟨aR,aL,aM,aN,aO,aP,aQ⟩,⟨aS,aT,aU⟩,aV,aW,aX,aY,aZ,b0⟩:=H
 have aw:=y.out.b2.cell
 have az:=y.out.b3.cell
 have aH:=Ah y.out.b2 J.out
 rw [←C.out.2.2.2.1] at W
 rw [←C.out.2.2.2.2.1] at Z
 have aE:¬(0:Int)<(nb:Int):=by omega
 have aF:(0:Int)<(na:Int):=by omega
 clear W Z
 have b8:(kq==1)=false:=by rw [C.out.2.2.2.2.2.2,a2.out]; rfl
 have b9:(kq != 2)=false:=by rw [C.out.2.2.2.2.2.2,a2.out]; rfl
 go_enter Tryz.func71,Tryz.ntmps71
 go_wp2_with (first
  | (go_at_call 117; refine Calls.ret (a9 _ y) ?_; rintro v w3 ⟨rfl,G⟩; rw [a7.out]; have z:=hide (y.out.at G); have ax:=z.out.b2.cell; have aA:=z.out.b3.cell; have aJ:=Ah z.out.b2 J.out; have V:=hide (U.out.trans (G.mono U.out.size)); clear G)
  | (go_at_call 118; refine Calls.ret (Da q.name _ (by omega) z.out.tab) ?_; rintro v w4 ⟨rfl,I⟩; rw [a8.out]; have E:=hide (z.out.at I); have ay:=E.out.b2.cell; have aB:=E.out.b3.cell; have aK:=Ah E.out.b2 J.out; have a6:=hide (V.out.trans (I.mono V.out.size)); clear I))
 go_ret
 exact⟨rfl,a6.out⟩
end Go.Proofs.YtfcfpoemojjglaaGreatDoor.K
