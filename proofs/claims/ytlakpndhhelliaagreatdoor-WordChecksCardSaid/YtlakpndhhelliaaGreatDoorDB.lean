/-
  Part DB of a proof.
-/
import Derived.Test.YtlakpndhhelliaaGreatDoorRows
import Derived.SevenTiedAt
import Derived.KernelRfl
import Derived.Test.YtlakpndhhelliaaGreatDoorPA
set_option maxHeartbeats 16000000
set_option maxRecDepth 100000
set_option linter.unusedVariables false
set_option linter.unusedSimpArgs false
namespace Go.Proofs.YtlakpndhhelliaaGreatDoor
open Go
set_option maxRecDepth 100000
theorem OP:Tryz.checked.prog.mainIs=some (true,"757347b20b265df57a0362e84d9777f4897b71c239c7c7496d6b51f5d3f1d689".toList):=by kernel_rfl
theorem O7:true=Tryz.checked.prog.looks []:=by kernel_rfl
end Go.Proofs.YtlakpndhhelliaaGreatDoor
