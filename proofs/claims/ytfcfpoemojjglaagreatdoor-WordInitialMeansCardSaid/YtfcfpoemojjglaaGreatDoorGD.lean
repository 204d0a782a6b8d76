/-
  Part GD of a proof.
-/
import Derived.Deep.Slices
import Derived.Deep.Fields
import Derived.Test.YtfcfpoemojjglaaGreatDoorPA
import Derived.Test.YtfcfpoemojjglaaGreatDoorFF
set_option maxHeartbeats 16000000
set_option maxRecDepth 100000
set_option linter.unusedVariables false
set_option linter.unusedSimpArgs false
namespace Go.Proofs.YtfcfpoemojjglaaGreatDoor.K
open Go.RowKit Go.ChangeShapes Go.WideShapes Go.Deep Go.ChangeAt Go.WideMaps Go.WideElems
set_option maxRecDepth 100000
section
variable {H:Type} {enc:TypeId×Value→H} {w:World} {base:Nat} {spare:Nat→Bool} {held:Bool}
theorem Qv {r:Go.Reach} {y:Nat} {v:Value} {d:DataW H} {p:List MemPlace} (C:Value.okWide Tryz.prog w r y 24 v) (h:DataW.Trod enc Tryz.prog w base spare held 24 v d p):∃A c,∃xs:List Int,v=.slice A xs.length c∧Sl w w.heap.size 1 Ai A xs:=by
 obtain⟨a,n,c,rfl⟩:=okWide_slice Tryz.underlying24 C
 obtain⟨fuel,z⟩:=h
 exact JJ z
end
end Go.Proofs.YtfcfpoemojjglaaGreatDoor.K
