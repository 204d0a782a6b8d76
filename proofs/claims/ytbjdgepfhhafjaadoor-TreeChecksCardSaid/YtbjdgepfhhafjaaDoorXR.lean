/-
  Part XR of a proof.
-/
import Derived.Test.YtbjdgepfhhafjaaDoorXA
import Derived.Test.YtbjdgepfhhafjaaDoorXP
import Derived.Test.YtbjdgepfhhafjaaDoorXQ
set_option maxHeartbeats 16000000
set_option maxRecDepth 100000
set_option linter.unusedVariables false
set_option linter.unusedSimpArgs false
namespace Go.Proofs.YtbjdgepfhhafjaaDoor
open Go.RowKit
theorem refProtValidate_any {w : World} {cs : List Value} {p : ProtD} (h : ProtIs w w.heap.size cs p) (hsm : p.Small) (hT : SpOK w) :
  Calls Tryd.prog 28 #[.agg cs.toArray] w (Ret fun v w' => v = .int .i64 (protE nameOK p) ∧ Below w.heap.size w w') := by
 by_cases ht : p.topo = 1
 ·exact refValidate_c h hsm hT ht
 ·exact refValidate_d h hsm hT ht
end Go.Proofs.YtbjdgepfhhafjaaDoor
