/-
  Part CS of a proof.
-/
import Derived.Test.YtfcfpoemojjglaaGreatDoorPA
import Derived.Test.YtfcfpoemojjglaaGreatDoorCQ
import Derived.Test.YtfcfpoemojjglaaGreatDoorCR
set_option maxHeartbeats 16000000
set_option maxRecDepth 100000
set_option linter.unusedVariables false
set_option linter.unusedSimpArgs false
namespace Go.Proofs.YtfcfpoemojjglaaGreatDoor.K
open Go.RowKit
theorem refProtValidate_any {w:World} {cs:List Value} {p:Am} (h:At w w.heap.size cs p) (z:p.Small) (y:A0 w):
  Calls Tryz.prog 95 #[.agg cs.toArray] w (Ret fun v w'=>v=.int .i64 (AC Ab p)∧Below w.heap.size w w'):=by
 by_cases ht:p.topo=1
 ·exact RT h z y ht
 ·exact RU h z y ht
end Go.Proofs.YtfcfpoemojjglaaGreatDoor.K
