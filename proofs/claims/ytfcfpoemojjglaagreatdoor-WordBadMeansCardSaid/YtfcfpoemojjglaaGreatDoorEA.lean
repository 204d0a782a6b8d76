/-
  Part EA of a proof.
-/
import Derived.Test.YtfcfpoemojjglaaGreatDoorPA
import Derived.Test.YtfcfpoemojjglaaGreatDoorPI
import Derived.Test.YtfcfpoemojjglaaGreatDoorPM
set_option maxHeartbeats 16000000
set_option maxRecDepth 100000
set_option linter.unusedVariables false
set_option linter.unusedSimpArgs false
namespace Go.Proofs.YtfcfpoemojjglaaGreatDoor
open Go.RowKit
section
variable {S:Type} [DecidableEq S] {L:Nat} {δ:S→Nat→S} {s0:S}
theorem KS {all:List S} (h:Bf L δ s0 all) (f:S→Bool) {w:List Nat} (E:okW L w):EI (AM L δ all all.length) (all.map f) w=f (Ay δ s0 w):=by
 have C:=Fq (δ:=δ) h (ac:=all.map f) (by simp)
 have G:=h.num E
 have I:Ay (dnx (AM L δ all all.length)) 0 w=Ay (Cy δ all) 0 w:=by
  have:=GR (L:=L) (n:=all.length) (nx:=dnx (AM L δ all all.length)) (nx':=Cy δ all) (fun q x y z=>by have:=C.lt (by simpa using y) z; simpa using this) (fun q x y z=>(Ie y z).symm) w 0 E (by have:=C.pos; simpa using this)
  exact this.symm
 unfold EI
 rw [I]
 unfold dac
 rw [getD_some (AX G)]
end
def dPr (t u:List (List Nat)) (p:Nat×Nat) (x:Nat):Nat×Nat:=(dnx t p.1 x,dnx u p.2 x)
def Us (op:Bool→Bool→Bool) (ac bc:List Bool) (p:Nat×Nat):Bool:=op (dac ac p.1) (dac bc p.2)
section
variable {L:Nat} {t u:List (List Nat)} {ac bc:List Bool} {all:List (Nat×Nat)} {op:Bool→Bool→Bool}
end
section
variable {L:Nat} {t:List (List Nat)} {ac:List Bool} {Λ:List Nat→Bool}
end
end Go.Proofs.YtfcfpoemojjglaaGreatDoor
namespace Go.Proofs.YtfcfpoemojjglaaGreatDoor
open Go.RowKit
set_option maxHeartbeats 16000000
set_option maxRecDepth 100000
end Go.Proofs.YtfcfpoemojjglaaGreatDoor
