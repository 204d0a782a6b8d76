/-
  TreeChecks: for which families and properties there are trees: the tied card. Condition: the laid variables are those of the program's text.
-/
import Derived.Test.YtbjdgepfhhafjaaDoorTie
import Derived.Test.YtbjdgepfhhafjaaDoorCards
import Derived.SevenTiedAt
import Derived.Test.YtbjdgepfhhafjaaDoorXA
import Derived.Test.YtbjdgepfhhafjaaDoorXZ
set_option maxHeartbeats 16000000
set_option maxRecDepth 100000
set_option linter.unusedVariables false
set_option linter.unusedSimpArgs false
namespace Go.Proofs.YtbjdgepfhhafjaaDoor
open Go
theorem treeChecks_card : Rows.TreeChecksCardSaid :=
 Claim7.holds_tied_plain_at .later [] [.listed, .data] true (true, "5a3f272faac0e89dbf91abd0196df62fca4be7a4ff3330fdcc14fb614770ffcf") false
  treeChecks_row (fun _ h => by cases h) (by kernel_rfl) (fun _ h => by cases h) treeChecks_row_tie rfl ⟨rfl, rfl⟩ (by kernel_rfl) rfl
  (fun f fn hf hfn => by
   obtain rfl : f = 3 := Option.some.inj ((show Tryd.prog.funcNamed "familycheck/familychecklaw07.TreeChecks" = some 3 by kernel_rfl).symm.trans hf) |>.symm
   obtain rfl : fn = Tryd.f3 := (Option.some.inj (Tryd.func3.symm.trans hfn)).symm
   exact ⟨by kernel_rfl, fun j t ht => by
    rw [Tryd.params3] at ht
    have hm : t ∈ [27, 30] := by simpa using Array.mem_of_getElem? ht
    have hall : ([27, 30].all fun u => !Tryd.prog.wantsStandIn u) = true := by kernel_rfl
    exact (show Tryd.prog.wantsStandIn t = false by simpa using List.all_eq_true.1 hall t hm)⟩)
  (by kernel_rfl)
#print axioms treeChecks_card
end Go.Proofs.YtbjdgepfhhafjaaDoor
