/-
  DERIVED. GIVEN WITH THE SEED: THE CARDS: each row of YtjejejmeddkciaaGreatDoorRows.lean that lists a variable, with what it lists TIED to the program's text (the seventh form; the later family's looks); each row that meets fmt, with fmt's text TOLD by the authors' own Lean function (tested against real Go, not proved from fmt's source: count such statements apart). THE CARD IS WHAT COUNTS. Prove the row's statement (the work); the ties are given (YtjejejmeddkciaaGreatDoorTie.lean); close each card by the builder's one call (the guide's Derived/Test/ToyasCard.lean, 'card_holds'). Laid BY PROGRAM, IN A SANDBOX (cutbox-door.mjs). By AI agents, Wed Nov 11 2026. No macro, syntax, notation, axiom, sorry.
-/
import Derived.Test.YtjejejmeddkciaaGreatDoorRows
import GoSem.ClaimSeven
namespace Go.Proofs.YtjejejmeddkciaaGreatDoor
namespace Rows

/-- THE TIED CARD OF 'familychecklaw06.WordStaysInside'. -/
def wordStaysInsideCard : Claim7 := { stood := { row := wordStaysInsideRow, standIns := [], harness := (true, "793a58bf8a29cd1efb571fba9c8b6e6ced56d04c95069783226657b6188cb9d0"), looks := true }, kinds := [], alts := [], laidByText := true, laidKinds := [.data, .data, .data, .listed, .data], laidTests := true, laidLooks := .later }
def WordStaysInsideCardSaid : Prop := Claim7.holds Tryz.pinned (.plain (OpenSpec.ofChange wordStaysInsideSpec)) wordStaysInsideCard

/-- THE TIED CARD OF 'familychecklaw06.WordSound'. -/
def wordSoundCard : Claim7 := { stood := { row := wordSoundRow, standIns := [], harness := (true, "793a58bf8a29cd1efb571fba9c8b6e6ced56d04c95069783226657b6188cb9d0"), looks := true }, kinds := [], alts := [], laidByText := true, laidKinds := [.data, .data, .data, .listed, .data], laidTests := true, laidLooks := .later }
def WordSoundCardSaid : Prop := Claim7.holds Tryz.pinned (.plain (OpenSpec.ofChange wordSoundSpec)) wordSoundCard

/-- THE SECOND FORM's CARD OF 'familychecklaw06.WordStaysInside'. -/
def wordStaysInsideUptoCard : Claim7 := { stood := { row := wordStaysInsideUptoRow, standIns := [], harness := (true, "793a58bf8a29cd1efb571fba9c8b6e6ced56d04c95069783226657b6188cb9d0"), looks := true }, kinds := [], alts := [], laidByText := true, laidKinds := [.data, .data, .data, .listed, .data], laidTests := true, laidLooks := .later }
def WordStaysInsideUptoCardSaid : Prop := Claim7.holds Tryz.pinned (.plain (OpenSpec.upto wordStaysInsideSpec)) wordStaysInsideUptoCard

/-- THE SECOND FORM's CARD OF 'familychecklaw06.WordSound'. -/
def wordSoundUptoCard : Claim7 := { stood := { row := wordSoundUptoRow, standIns := [], harness := (true, "793a58bf8a29cd1efb571fba9c8b6e6ced56d04c95069783226657b6188cb9d0"), looks := true }, kinds := [], alts := [], laidByText := true, laidKinds := [.data, .data, .data, .listed, .data], laidTests := true, laidLooks := .later }
def WordSoundUptoCardSaid : Prop := Claim7.holds Tryz.pinned (.plain (OpenSpec.upto wordSoundSpec)) wordSoundUptoCard
end Rows
end Go.Proofs.YtjejejmeddkciaaGreatDoor
