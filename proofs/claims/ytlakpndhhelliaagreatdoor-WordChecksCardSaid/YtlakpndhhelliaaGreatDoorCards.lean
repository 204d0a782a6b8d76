/-
  DERIVED. GIVEN WITH THE SEED: THE CARDS: each row of YtlakpndhhelliaaGreatDoorRows.lean that lists a variable, with what it lists TIED to the program's text (the seventh form; the later family's looks); each row that meets fmt, with fmt's text TOLD by the authors' own Lean function (tested against real Go, not proved from fmt's source: count such statements apart). THE CARD IS WHAT COUNTS. Prove the row's statement (the work); the ties are given (YtlakpndhhelliaaGreatDoorTie.lean); close each card by the builder's one call (the guide's Derived/Test/ToyasCard.lean, 'card_holds'). Laid BY PROGRAM, IN A SANDBOX (cutbox-door.mjs). By AI agents, Wed Nov 11 2026. No macro, syntax, notation, axiom, sorry.
-/
import Derived.Test.YtlakpndhhelliaaGreatDoorRows
import GoSem.ClaimSeven
namespace Go.Proofs.YtlakpndhhelliaaGreatDoor
namespace Rows

/-- THE TIED CARD OF 'familychecklaw06.WordChecks'. -/
def wordChecksCard : Claim7 := { stood := { row := wordChecksRow, standIns := [], harness := (true, "757347b20b265df57a0362e84d9777f4897b71c239c7c7496d6b51f5d3f1d689"), looks := true }, kinds := [], alts := [], laidByText := true, laidKinds := [.data, .data, .data, .listed, .data], laidTests := true, laidLooks := .later }
def WordChecksCardSaid : Prop := Claim7.holds Tryz.pinned (.plain (OpenSpec.ofChange wordChecksSpec)) wordChecksCard

/-- THE SECOND FORM's CARD OF 'familychecklaw06.WordChecks'. -/
def wordChecksUptoCard : Claim7 := { stood := { row := wordChecksUptoRow, standIns := [], harness := (true, "757347b20b265df57a0362e84d9777f4897b71c239c7c7496d6b51f5d3f1d689"), looks := true }, kinds := [], alts := [], laidByText := true, laidKinds := [.data, .data, .data, .listed, .data], laidTests := true, laidLooks := .later }
def WordChecksUptoCardSaid : Prop := Claim7.holds Tryz.pinned (.plain (OpenSpec.upto wordChecksSpec)) wordChecksUptoCard
end Rows
end Go.Proofs.YtlakpndhhelliaaGreatDoor
