/-
  DERIVED. GIVEN WITH THE SEED: THE CARDS: each row of YtfcfpoemojjglaaGreatDoorRows.lean that lists a variable, with what it lists TIED to the program's text (the seventh form; the later family's looks); each row that meets fmt, with fmt's text TOLD by the authors' own Lean function (tested against real Go, not proved from fmt's source: count such statements apart). THE CARD IS WHAT COUNTS. Prove the row's statement (the work); the ties are given (YtfcfpoemojjglaaGreatDoorTie.lean); close each card by the builder's one call (the guide's Derived/Test/ToyasCard.lean, 'card_holds'). Laid BY PROGRAM, IN A SANDBOX (cutbox-door.mjs). By AI agents, Wed Nov 11 2026. No macro, syntax, notation, axiom, sorry.
-/
import Derived.Test.YtfcfpoemojjglaaGreatDoorRows
import GoSem.ClaimSeven
namespace Go.Proofs.YtfcfpoemojjglaaGreatDoor
namespace Rows

/-- THE TIED CARD OF 'familychecklaw06.WordInitials'. -/
def wordInitialsCard : Claim7 := { stood := { row := wordInitialsRow, standIns := [], harness := (true, "9ac3a2f38e2114aff4fff80aa0b147a785d2dc1b0e5b699508a615585c3fa333"), looks := true }, kinds := [], alts := [], laidByText := true, laidKinds := [.data, .data, .data, .listed, .data], laidTests := true, laidLooks := .later }
def WordInitialsCardSaid : Prop := Claim7.holds Tryz.pinned (.plain (OpenSpec.ofChange wordInitialsSpec)) wordInitialsCard

/-- THE TIED CARD OF 'familychecklaw06.WordBads'. -/
def wordBadsCard : Claim7 := { stood := { row := wordBadsRow, standIns := [], harness := (true, "9ac3a2f38e2114aff4fff80aa0b147a785d2dc1b0e5b699508a615585c3fa333"), looks := true }, kinds := [], alts := [], laidByText := true, laidKinds := [.data, .data, .data, .listed, .data], laidTests := true, laidLooks := .later }
def WordBadsCardSaid : Prop := Claim7.holds Tryz.pinned (.plain (OpenSpec.ofChange wordBadsSpec)) wordBadsCard

/-- THE TIED CARD OF 'familychecklaw06.WordInitialMeans'. -/
def wordInitialMeansCard : Claim7 := { stood := { row := wordInitialMeansRow, standIns := [], harness := (true, "9ac3a2f38e2114aff4fff80aa0b147a785d2dc1b0e5b699508a615585c3fa333"), looks := true }, kinds := [], alts := [], laidByText := true, laidKinds := [.data, .data, .data, .listed, .data], laidTests := true, laidLooks := .later }
def WordInitialMeansCardSaid : Prop := Claim7.holds Tryz.pinned (.plain (OpenSpec.ofChange wordInitialMeansSpec)) wordInitialMeansCard

/-- THE TIED CARD OF 'familychecklaw06.WordBadMeans'. -/
def wordBadMeansCard : Claim7 := { stood := { row := wordBadMeansRow, standIns := [], harness := (true, "9ac3a2f38e2114aff4fff80aa0b147a785d2dc1b0e5b699508a615585c3fa333"), looks := true }, kinds := [], alts := [], laidByText := true, laidKinds := [.data, .data, .data, .listed, .data], laidTests := true, laidLooks := .later }
def WordBadMeansCardSaid : Prop := Claim7.holds Tryz.pinned (.plain (OpenSpec.ofChange wordBadMeansSpec)) wordBadMeansCard

/-- THE TIED CARD OF 'familychecklaw06.WordRuleRelations'. -/
def wordRuleRelationsCard : Claim7 := { stood := { row := wordRuleRelationsRow, standIns := [], harness := (true, "9ac3a2f38e2114aff4fff80aa0b147a785d2dc1b0e5b699508a615585c3fa333"), looks := true }, kinds := [], alts := [], laidByText := true, laidKinds := [.data, .data, .data, .listed, .data], laidTests := true, laidLooks := .later }
def WordRuleRelationsCardSaid : Prop := Claim7.holds Tryz.pinned (.plain (OpenSpec.ofChange wordRuleRelationsSpec)) wordRuleRelationsCard

/-- THE TIED CARD OF 'familychecklaw06.WordStepRelations'. -/
def wordStepRelationsCard : Claim7 := { stood := { row := wordStepRelationsRow, standIns := [], harness := (true, "9ac3a2f38e2114aff4fff80aa0b147a785d2dc1b0e5b699508a615585c3fa333"), looks := true }, kinds := [], alts := [], laidByText := true, laidKinds := [.data, .data, .data, .listed, .data], laidTests := true, laidLooks := .later }
def WordStepRelationsCardSaid : Prop := Claim7.holds Tryz.pinned (.plain (OpenSpec.ofChange wordStepRelationsSpec)) wordStepRelationsCard

/-- THE SECOND FORM's CARD OF 'familychecklaw06.WordInitials'. -/
def wordInitialsUptoCard : Claim7 := { stood := { row := wordInitialsUptoRow, standIns := [], harness := (true, "9ac3a2f38e2114aff4fff80aa0b147a785d2dc1b0e5b699508a615585c3fa333"), looks := true }, kinds := [], alts := [], laidByText := true, laidKinds := [.data, .data, .data, .listed, .data], laidTests := true, laidLooks := .later }
def WordInitialsUptoCardSaid : Prop := Claim7.holds Tryz.pinned (.plain (OpenSpec.upto wordInitialsSpec)) wordInitialsUptoCard

/-- THE SECOND FORM's CARD OF 'familychecklaw06.WordBads'. -/
def wordBadsUptoCard : Claim7 := { stood := { row := wordBadsUptoRow, standIns := [], harness := (true, "9ac3a2f38e2114aff4fff80aa0b147a785d2dc1b0e5b699508a615585c3fa333"), looks := true }, kinds := [], alts := [], laidByText := true, laidKinds := [.data, .data, .data, .listed, .data], laidTests := true, laidLooks := .later }
def WordBadsUptoCardSaid : Prop := Claim7.holds Tryz.pinned (.plain (OpenSpec.upto wordBadsSpec)) wordBadsUptoCard

/-- THE SECOND FORM's CARD OF 'familychecklaw06.WordInitialMeans'. -/
def wordInitialMeansUptoCard : Claim7 := { stood := { row := wordInitialMeansUptoRow, standIns := [], harness := (true, "9ac3a2f38e2114aff4fff80aa0b147a785d2dc1b0e5b699508a615585c3fa333"), looks := true }, kinds := [], alts := [], laidByText := true, laidKinds := [.data, .data, .data, .listed, .data], laidTests := true, laidLooks := .later }
def WordInitialMeansUptoCardSaid : Prop := Claim7.holds Tryz.pinned (.plain (OpenSpec.upto wordInitialMeansSpec)) wordInitialMeansUptoCard

/-- THE SECOND FORM's CARD OF 'familychecklaw06.WordBadMeans'. -/
def wordBadMeansUptoCard : Claim7 := { stood := { row := wordBadMeansUptoRow, standIns := [], harness := (true, "9ac3a2f38e2114aff4fff80aa0b147a785d2dc1b0e5b699508a615585c3fa333"), looks := true }, kinds := [], alts := [], laidByText := true, laidKinds := [.data, .data, .data, .listed, .data], laidTests := true, laidLooks := .later }
def WordBadMeansUptoCardSaid : Prop := Claim7.holds Tryz.pinned (.plain (OpenSpec.upto wordBadMeansSpec)) wordBadMeansUptoCard

/-- THE SECOND FORM's CARD OF 'familychecklaw06.WordRuleRelations'. -/
def wordRuleRelationsUptoCard : Claim7 := { stood := { row := wordRuleRelationsUptoRow, standIns := [], harness := (true, "9ac3a2f38e2114aff4fff80aa0b147a785d2dc1b0e5b699508a615585c3fa333"), looks := true }, kinds := [], alts := [], laidByText := true, laidKinds := [.data, .data, .data, .listed, .data], laidTests := true, laidLooks := .later }
def WordRuleRelationsUptoCardSaid : Prop := Claim7.holds Tryz.pinned (.plain (OpenSpec.upto wordRuleRelationsSpec)) wordRuleRelationsUptoCard

/-- THE SECOND FORM's CARD OF 'familychecklaw06.WordStepRelations'. -/
def wordStepRelationsUptoCard : Claim7 := { stood := { row := wordStepRelationsUptoRow, standIns := [], harness := (true, "9ac3a2f38e2114aff4fff80aa0b147a785d2dc1b0e5b699508a615585c3fa333"), looks := true }, kinds := [], alts := [], laidByText := true, laidKinds := [.data, .data, .data, .listed, .data], laidTests := true, laidLooks := .later }
def WordStepRelationsUptoCardSaid : Prop := Claim7.holds Tryz.pinned (.plain (OpenSpec.upto wordStepRelationsSpec)) wordStepRelationsUptoCard
end Rows
end Go.Proofs.YtfcfpoemojjglaaGreatDoor
