/-
  Part CN of a proof.
-/
import Derived.Test.YtfcfpoemojjglaaGreatDoorPA
import Derived.Test.YtfcfpoemojjglaaGreatDoorCK
import Derived.Test.YtfcfpoemojjglaaGreatDoorCL
import Derived.Test.YtfcfpoemojjglaaGreatDoorCM
set_option maxHeartbeats 16000000
set_option maxRecDepth 100000
set_option linter.unusedVariables false
set_option linter.unusedSimpArgs false
namespace Go.Proofs.YtfcfpoemojjglaaGreatDoor.K
open Go.RowKit
theorem KF {w:World} {cs:List Value} {p:Am} {i:Nat} (h:At w w.heap.size cs p) (hi:i<p.rules.length) (F:p.Small) (G:SpOK w):
  Calls Tryz.prog 138 #[.agg cs.toArray,.int .i64 (i:Int)] w (Ret fun v w'=>v=.int .i64 (BB nameOK p i)∧Below w.heap.size w w'):=by
 obtain⟨r,C⟩:∃r,p.rules[i]?=some r:=⟨_,List.getElem?_eq_getElem hi⟩
 obtain⟨J,I⟩:=F.rule r (List.mem_of_getElem? C)
 have he:BB nameOK p i=BC nameOK p.topo p.states.length p.messages.length p.values.length ((p.rules.take i).any fun x=>decide (x.name=r.name)) r:=by
  unfold BB
  rw [C]
 rw [he]
 by_cases Z:nameOK r.name=false∨((p.rules.take i).any fun x=>decide (x.name=r.name))=true
 ·exact SD h C J I F G (hide rfl) Z
 have V:nameOK r.name=true:=by cases y:nameOK r.name <;> simp_all
 have M:((p.rules.take i).any fun x=>decide (x.name=r.name))=false:=by
  cases y:((p.rules.take i).any fun x=>decide (x.name=r.name))
  ·rfl
  ·exact absurd (.inr y) Z
 rw [M]
 by_cases O:inC r.kind 1 5=false∨inC r.kind 1 5=true∧((decide (r.kind≤3) != (p.topo==1))=true∨(decide (r.kind≤3) != (p.topo==1))=false∧B9 p.topo r=true)
 ·exact SE h C J I F G M V O
 have E:inC r.kind 1 5=true:=by
  cases y:inC r.kind 1 5
  ·exact absurd (.inl y) O
  ·rfl
 have U:(decide (r.kind≤3) != (p.topo==1))=false:=by
  cases y:(decide (r.kind≤3) != (p.topo==1))
  ·rfl
  ·exact absurd (.inr ⟨E,.inl y⟩) O
 have W:B9 p.topo r=false:=by
  cases y:B9 p.topo r
  ·rfl
  ·exact absurd (.inr ⟨E,.inr ⟨U,y⟩⟩) O
 have hb:1≤r.kind∧r.kind≤5:=by simpa [inC] using E
 by_cases k1:r.kind=1
 ·exact SF h C J I F G M V E U W k1
 by_cases k4:r.kind=4
 ·exact SH h C J I F G M V E U W k4
 exact SG h C J I F G M V E U W (by omega)
end Go.Proofs.YtfcfpoemojjglaaGreatDoor.K
