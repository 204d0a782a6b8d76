/-
  Part CN of a proof.
-/
import Derived.Test.YtfcfpoemojjglaaGreatDoorPA
import Derived.Test.YtfcfpoemojjglaaGreatDoorCK
import Derived.Test.YtfcfpoemojjglaaGreatDoorCL
import Derived.Test.YtfcfpoemojjglaaGreatDoorCM
set_option maxHeartbeats 16000000
set_option maxRecDepth 100000
set_option linter.unusedVariables false
set_option linter.unusedSimpArgs false
namespace Go.Proofs.YtfcfpoemojjglaaGreatDoor.K
open Go.RowKit
theorem KF {w:World} {cs:List Value} {p:Am} {i:Nat} (h:At w w.heap.size cs p) (W:i<p.rules.length) (y:p.Small) (C:SpOK w):
  Calls Tryz.prog 138 #[.agg cs.toArray,.int .i64 (i:Int)] w (Ret fun v w'=>v=.int .i64 (BB nameOK p i)/\Below w.heap.size w w'):=by
 obtain⟨r,j⟩:∃r,p.rules[i]?=some r:=⟨_,List.getElem?_eq_getElem W⟩;obtain⟨G,E⟩:=y.rule r (List.mem_of_getElem? j);have he:BB nameOK p i=BC nameOK p.topo p.states.length p.messages.length p.values.length ((p.rules.take i).any fun x=>decide (x.name=r.name)) r:=by
  unfold BB;rw [j]
 rw [he];by_cases V:nameOK r.name=false\/((p.rules.take i).any fun x=>decide (x.name=r.name))=true
 ·exact SD h j G E y C (hide rfl) V
 have O:nameOK r.name=true:=by cases d:nameOK r.name <;> simp_all
 have I:((p.rules.take i).any fun x=>decide (x.name=r.name))=false:=by
  cases d:((p.rules.take i).any fun x=>decide (x.name=r.name))
  ·rfl
  ·exact absurd (.inr d) V
 rw [I];by_cases J:inC r.kind 1 5=false\/inC r.kind 1 5=true/\((decide (r.kind<=3) != (p.topo==1))=true\/(decide (r.kind<=3) != (p.topo==1))=false/\B9 p.topo r=true)
 ·exact SE h j G E y C I O J
 have l:inC r.kind 1 5=true:=by
  cases d:inC r.kind 1 5
  ·exact absurd (.inl d) J
  ·rfl
 have M:(decide (r.kind<=3) != (p.topo==1))=false:=by
  cases d:(decide (r.kind<=3) != (p.topo==1))
  ·rfl
  ·exact absurd (.inr ⟨l,.inl d⟩) J
 have U:B9 p.topo r=false:=by
  cases d:B9 p.topo r
  ·rfl
  ·exact absurd (.inr ⟨l,.inr ⟨M,d⟩⟩) J
 have hb:1<=r.kind/\r.kind<=5:=by simpa [inC] using l
 by_cases k1:r.kind=1
 ·exact SF h j G E y C I O l M U k1
 by_cases Z:r.kind=4
 ·exact SH h j G E y C I O l M U Z
 exact SG h j G E y C I O l M U (by omega)
end Go.Proofs.YtfcfpoemojjglaaGreatDoor.K
