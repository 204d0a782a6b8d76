/-
  Part AB of a proof.
-/
import Derived.Test.YtfcfpoemojjglaaGreatDoorPA
import Derived.Test.YtfcfpoemojjglaaGreatDoorCI
set_option maxHeartbeats 16000000
set_option maxRecDepth 100000
set_option linter.unusedVariables false
set_option linter.unusedSimpArgs false
namespace Go.Proofs.YtfcfpoemojjglaaGreatDoor.K
open Go.RowKit
attribute [-go_sem] loadCellsFrom storeCells
theorem DX (b:Bool) (e:Int) (w:World):Calls Tryz.prog 121 #[.bool b,.int .i64 e] w (Ret fun r w'=>(∃x,r=.int .i64 x∧Hid (x=Ad b e))∧w=w'):=
 (Ce b e w).mono fun r w' h=>by
  obtain⟨rfl,rfl⟩:=h
  exact⟨⟨_,rfl,rfl⟩,rfl⟩
end Go.Proofs.YtfcfpoemojjglaaGreatDoor.K
