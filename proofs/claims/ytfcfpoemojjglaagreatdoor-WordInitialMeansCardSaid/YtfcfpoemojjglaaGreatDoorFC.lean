/-
  Part FC of a proof.
-/
import Derived.Test.YtfcfpoemojjglaaGreatDoorPA
import Derived.Test.YtfcfpoemojjglaaGreatDoorEH
import Derived.Test.YtfcfpoemojjglaaGreatDoorFB
import Derived.Test.YtfcfpoemojjglaaGreatDoorCJ
import Derived.Test.YtfcfpoemojjglaaGreatDoorPS
import Derived.Test.YtfcfpoemojjglaaGreatDoorPB
set_option maxHeartbeats 16000000
set_option maxRecDepth 100000
set_option linter.unusedVariables false
set_option linter.unusedSimpArgs false
namespace Go.Proofs.YtfcfpoemojjglaaGreatDoor
open Go.RowKit
open K (Am AB At Ba PQX Ah)
attribute [-go_sem] loadCellsFrom storeCells
set_option maxHeartbeats 16000000
set_option maxRecDepth 100000
theorem I8 {w:World} {B c:Nat} {A:Option Addr} {l:List Int} (h:Sl w B 1 Ai A l) (hl:l.length≤4000000):
  Calls Tryz.prog 87 #[.slice A l.length c] w (Ret fun r w'=>Below w.heap.size w w'∧∃E M,r=.slice E l.length M∧Sl w' w'.heap.size 1 Ai E l):=by
 by_cases I:l=[]
 ·subst I
  cases A with
  | none=>
   refine(Tryz.slices_Clone_int_nil 0 c w).mono ?_
   rintro e w' ⟨rfl,rfl⟩
   exact⟨Below.refl _ _,none,0,rfl,Sl.nil rfl⟩
  | some a=>
   refine(Any.slices_Clone_int_zero Tryz.laysNm215 a c w).mono ?_
   rintro e w' ⟨Z,rfl,y,-,C⟩
   obtain⟨z,c1,rfl⟩:=AH y
   exact⟨C,z,c1,rfl,Sl.nil rfl⟩
 ·obtain⟨b,J,rfl,a2,V⟩:=h.2 I
  have W:∀j,j<l.length→w.cell? ⟨b,J+j,none⟩=some (.int .i64 (l.getD j 0)):=fun j G=>by
   have:=V j _ (List.getElem?_eq_getElem G) 0 (by omega)
   rw [getD_some (List.getElem?_eq_getElem G)]
   simpa [Ai] using this
  refine(Tryz.slices_Clone_int b J l.length c l w (Nat.le_refl _) (by omega) W).mono ?_
  rintro e w' ⟨Z,rfl,y,-,C⟩
  rw [List.take_of_length_le (Nat.le_refl _)] at y
  obtain⟨z,c1,O,U⟩:=B8 y rfl (Nat.le_refl _) (by omega)
  exact⟨C,z,c1,O,U⟩
theorem Tj {w:World} {cs ds:List Value} {p:Am} {q:AB} (h:At w w.heap.size cs p) (Z:Ba w w.heap.size ds q) (ai:p.Small) (aj:q.Small) (hT:K.SpOK w)
  (ak:∀(G:World) (O U:Array Value) (ga gb:Nat),PQX G ga gb O U p q→Calls Tryz.prog 71 #[.agg O,.agg U] G (Ret fun v w'=>v=.int .i64 0∧Below G.heap.size G w')):
  Calls Tryz.prog 72 #[.agg cs.toArray,.agg ds.toArray] w (Ret fun v w'=>Below w.heap.size w w'∧∃A c,v=.tuple #[.slice A (AU p q).length c,.int .i64 0]∧Sl w' w'.heap.size 1 Ai A (AU p q)):=by
 obtain⟨B1,d1,B2,d2,B3,d3,B4,d4,ah,aH,aJ,br,aK,aL,aM,k1,k2,k3,k4⟩:=Z.cells
 obtain⟨A1,c1,A2,c2,A3,c3,A4,c4,A5,c5,A6,c6,A7,c7,ag,ax,ay,az,aA,aB,aC,aD,bq,aE,aF,j1,j2,j3,j4,j5,j6,j7,j8⟩:=h.cells
 obtain⟨w1,bs,a4,a8,av⟩:=Ae w cs.toArray 27
 obtain⟨w2,bt,a5,a9,aw⟩:=Ae w1 ds.toArray 30
 have C:=hide (a4.trans (a5.mono a4.size))
 have I:=hide (show PQX w2 w.heap.size w1.heap.size cs.toArray ds.toArray p q from⟨h.keep (fun _ z=>C.out.cell z) C.out.size,Z.keep (fun _ z=>C.out.cell z) C.out.size,a8.below a5,a9,hT.below C.out⟩)
 generalize aG:cs.toArray=O at*
 generalize aN:ds.toArray=U at*
 have al:=hide (fun G (hx:Hid (PQX G w.heap.size w1.heap.size O U p q))=>ak G O U _ _ hx.out)
 have bo:=Ah I.out.b2 ag
 have bp:=Ah I.out.b3 ah
 have af:=hide k1
 have ad:=hide j5
 have ar:p.initial.length≤4000000:=by have:=ai.initial; omega
 have au:q.start.length≤4000000:=by have:=aj.start; omega
 clear k1 k2 k3 k4 j1 j2 j3 j4 j5 j6 j7 j8 h Z ai aj a4 a5 a8 a9 av aw aG aN hT ag ah aH aJ aK aL aM ax ay az aA aB aC aD aE aF ak
 by_cases h0:0<q.start.length
 ·have hs:=hide (show AU p q=q.start from if_pos h0)
  rw [hs.out]
  go_enter Tryz.func72,Tryz.ntmps72
  go_wp2_with fail
  refine Calls.ret (al.out _ I) ?_
  rintro v w3 ⟨rfl,E⟩
  have J:=hide (I.out.at E)
  have ap:=J.out.b2.cell
  have aq:=J.out.b3.cell
  have y:=hide (C.out.trans (E.mono C.out.size))
  have ae:=hide (af.out.keep (fun p z=>y.out.cell z) y.out.size)
  have ab:=hide (ad.out.keep (fun p z=>y.out.cell z) y.out.size)
  clear E
  go_wp2_with fail
  refine Calls.ret (I8 ae.out au) ?_
  rintro v w4 ⟨M,V,W,rfl,hS⟩
  have a3:=hide (y.out.trans (M.mono y.out.size))
  have a2:=hide hS
  clear M hS
  go_wp2_with fail
  refine bodyPost_ret (v:=.tuple #[.slice V q.start.length W,.int .i64 0]) (by simp [results,Tryz.results72,go_sem]) rfl ⟨a3.out,_,_,rfl,a2.out⟩
 ·have hs:=hide (show AU p q=p.initial from if_neg h0)
  rw [hs.out]
  go_enter Tryz.func72,Tryz.ntmps72
  go_wp2_with fail
  refine Calls.ret (al.out _ I) ?_
  rintro v w3 ⟨rfl,E⟩
  have J:=hide (I.out.at E)
  have ap:=J.out.b2.cell
  have aq:=J.out.b3.cell
  have y:=hide (C.out.trans (E.mono C.out.size))
  have ae:=hide (af.out.keep (fun p z=>y.out.cell z) y.out.size)
  have ab:=hide (ad.out.keep (fun p z=>y.out.cell z) y.out.size)
  clear E
  go_wp2_with fail
  refine Calls.ret (I8 ab.out ar) ?_
  rintro v w4 ⟨M,V,W,rfl,hS⟩
  have a3:=hide (y.out.trans (M.mono y.out.size))
  have a2:=hide hS
  clear M hS
  go_wp2_with fail
  refine bodyPost_ret (v:=.tuple #[.slice V p.initial.length W,.int .i64 0]) (by simp [results,Tryz.results72,go_sem]) rfl ⟨a3.out,_,_,rfl,a2.out⟩
end Go.Proofs.YtfcfpoemojjglaaGreatDoor
namespace Go.Proofs.YtfcfpoemojjglaaGreatDoor
open Go.RowKit
open K (Am AB At Ba PQX Ah)
attribute [-go_sem] loadCellsFrom storeCells
set_option maxHeartbeats 16000000
set_option maxRecDepth 100000
theorem KG {w:World} {cs ds:List Value} {p:Am} {q:AB} (h:At w w.heap.size cs p) (U:Ba w w.heap.size ds q) (a2:p.Small) (a3:q.Small):
  Calls Tryz.prog 77 #[.agg cs.toArray,.agg ds.toArray] w (Ret fun v w'=>Below w.heap.size w w'∧w'.ownsRow w.heap.size 3 1 v (AU p q).length ((AU p q).map (Value.int .i64))):=by
 obtain⟨B1,d1,B2,d2,B3,d3,B4,d4,aw,ao,ap,b6,aq,ar,au,k1,k2,k3,k4⟩:=U.cells
 obtain⟨A1,c1,A2,c2,A3,c3,A4,c4,A5,c5,A6,c6,A7,c7,an,ad,ae,af,ag,ah,ai,aj,b5,ak,al,j1,j2,j3,j4,j5,j6,j7,j8⟩:=h.cells
 obtain⟨w1,b7,I,W,a9⟩:=Ae w cs.toArray 27
 obtain⟨w2,b8,J,Z,ab⟩:=Ae w1 ds.toArray 30
 have y:=hide (I.trans (J.mono I.size))
 have b3:=(W.below J).cell
 have b4:=Z.cell
 have aa:=hide (k1.keep (w':=w2) (B':=w2.heap.size) (fun p M=>y.out.cell M) y.out.size)
 have a8:=hide (j5.keep (w':=w2) (B':=w2.heap.size) (fun p M=>y.out.cell M) y.out.size)
 generalize am:cs.toArray=pc at*
 generalize av:ds.toArray=qc at*
 have a6:p.initial.length≤900000:=by have:=a2.initial; omega
 have a7:q.start.length≤900000:=by have:=a3.start; omega
 clear k1 k2 k3 k4 j1 j2 j3 j4 j5 j6 j7 j8 h U a2 a3 I J W Z a9 ab am av an aw ao ap aq ar au ad ae af ag ah ai aj ak al
 by_cases V:0<q.start.length
 ·have O:=hide (show AU p q=q.start from if_pos V)
  rw [O.out]
  go_enter Tryz.func77,Tryz.ntmps77
  go_wp2_with fail
  refine Calls.ret (Hh aa.out (Nat.le_refl _) a7) ?_
  rintro v w4 ⟨C,z⟩
  have G:=hide (y.out.trans (C.mono y.out.size))
  have E:=hide z
  clear C z
  go_wp2_with fail
  go_ret
  exact⟨G.out,DC E.out y.out.size⟩
 ·have O:=hide (show AU p q=p.initial from if_neg V)
  rw [O.out]
  go_enter Tryz.func77,Tryz.ntmps77
  go_wp2_with fail
  refine Calls.ret (Hh a8.out (Nat.le_refl _) a6) ?_
  rintro v w4 ⟨C,z⟩
  have G:=hide (y.out.trans (C.mono y.out.size))
  have E:=hide z
  clear C z
  go_wp2_with fail
  go_ret
  exact⟨G.out,DC E.out y.out.size⟩
end Go.Proofs.YtfcfpoemojjglaaGreatDoor
