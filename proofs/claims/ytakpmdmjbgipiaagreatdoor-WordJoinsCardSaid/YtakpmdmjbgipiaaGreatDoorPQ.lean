/-
  Part PQ of a proof.
-/
import Derived.Test.YtakpmdmjbgipiaaGreatDoorRows
import Derived.SevenTiedAt
import Derived.KernelRfl
import Derived.Test.YtakpmdmjbgipiaaGreatDoorPA
set_option maxHeartbeats 16000000
set_option maxRecDepth 100000
set_option linter.unusedVariables false
set_option linter.unusedSimpArgs false
namespace Go.Proofs.YtakpmdmjbgipiaaGreatDoor
open Go
set_option maxRecDepth 100000
theorem seat_main : Tryz.checked.prog.mainIs = some (true, "fc6021f947ae280e8b1573e9bc9cdcd8ed585aaad0a8dddccec74b8c3798ff21".toList) := by kernel_rfl
theorem seat_looks : true = Tryz.checked.prog.looks [] := by kernel_rfl
end Go.Proofs.YtakpmdmjbgipiaaGreatDoor
