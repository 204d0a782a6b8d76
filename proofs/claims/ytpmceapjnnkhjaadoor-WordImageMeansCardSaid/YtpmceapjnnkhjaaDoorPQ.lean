/-
  Part PQ of a proof.
-/
import Derived.Test.YtpmceapjnnkhjaaDoorRows
import Derived.SevenTiedAt
import Derived.KernelRfl
import Derived.Test.YtpmceapjnnkhjaaDoorPA
set_option maxHeartbeats 16000000
set_option maxRecDepth 100000
set_option linter.unusedVariables false
set_option linter.unusedSimpArgs false
namespace Go.Proofs.YtpmceapjnnkhjaaDoor
open Go
set_option maxRecDepth 100000
theorem seat_main : Tryd.checked.prog.mainIs = some (true, "6daf4f740c5c153ba95715f286d9de89d8df7fc8863bab305309aec69a24d890".toList) := by kernel_rfl
theorem seat_looks : true = Tryd.checked.prog.looks [] := by kernel_rfl
end Go.Proofs.YtpmceapjnnkhjaaDoor
