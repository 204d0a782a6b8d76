/-
  Part FH of a proof.
-/
import Derived.Test.YtfcfpoemojjglaaGreatDoorRows
import Derived.SevenTiedAt
import Derived.KernelRfl
import Derived.Test.YtfcfpoemojjglaaGreatDoorPA
set_option maxHeartbeats 16000000
set_option maxRecDepth 100000
set_option linter.unusedVariables false
set_option linter.unusedSimpArgs false
namespace Go.Proofs.YtfcfpoemojjglaaGreatDoor
open Go
set_option maxRecDepth 100000
theorem Lf:Tryz.checked.prog.mainIs=some (true,"9ac3a2f38e2114aff4fff80aa0b147a785d2dc1b0e5b699508a615585c3fa333".toList):=by kernel_rfl
theorem Le:true=Tryz.checked.prog.looks []:=by kernel_rfl
end Go.Proofs.YtfcfpoemojjglaaGreatDoor
