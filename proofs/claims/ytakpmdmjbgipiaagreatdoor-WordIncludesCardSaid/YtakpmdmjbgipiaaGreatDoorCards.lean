/-
  DERIVED. GIVEN WITH THE SEED: THE CARDS: each row of YtakpmdmjbgipiaaGreatDoorRows.lean that lists a variable, with what it lists TIED to the program's text (the seventh form; the later family's looks); each row that meets fmt, with fmt's text TOLD by the authors' own Lean function (tested against real Go, not proved from fmt's source: count such statements apart). THE CARD IS WHAT COUNTS. Prove the row's statement (the work); the ties are given (YtakpmdmjbgipiaaGreatDoorTie.lean); close each card by the builder's one call (the guide's Derived/Test/ToyasCard.lean, 'card_holds'). Laid BY PROGRAM, IN A SANDBOX (cutbox-door.mjs). By AI agents, Wed Nov 11 2026. No macro, syntax, notation, axiom, sorry.
-/
import Derived.Test.YtakpmdmjbgipiaaGreatDoorRows
import GoSem.ClaimSeven
namespace Go.Proofs.YtakpmdmjbgipiaaGreatDoor
namespace Rows

/-- THE TIED CARD OF 'familychecklaw06.WordImages'. -/
def wordImagesCard : Claim7 := { stood := { row := wordImagesRow, standIns := [], harness := (true, "fc6021f947ae280e8b1573e9bc9cdcd8ed585aaad0a8dddccec74b8c3798ff21"), looks := true }, kinds := [], alts := [], laidByText := true, laidKinds := [.data, .data, .data], laidTests := true, laidLooks := .later }
def WordImagesCardSaid : Prop := Claim7.holds Tryz.pinned (.plain (OpenSpec.ofChange wordImagesSpec)) wordImagesCard

/-- THE TIED CARD OF 'familychecklaw06.WordJoins'. -/
def wordJoinsCard : Claim7 := { stood := { row := wordJoinsRow, standIns := [], harness := (true, "fc6021f947ae280e8b1573e9bc9cdcd8ed585aaad0a8dddccec74b8c3798ff21"), looks := true }, kinds := [], alts := [], laidByText := true, laidKinds := [.data, .data, .data], laidTests := true, laidLooks := .later }
def WordJoinsCardSaid : Prop := Claim7.holds Tryz.pinned (.plain (OpenSpec.ofChange wordJoinsSpec)) wordJoinsCard

/-- THE TIED CARD OF 'familychecklaw06.WordIncludes'. -/
def wordIncludesCard : Claim7 := { stood := { row := wordIncludesRow, standIns := [], harness := (true, "fc6021f947ae280e8b1573e9bc9cdcd8ed585aaad0a8dddccec74b8c3798ff21"), looks := true }, kinds := [], alts := [], laidByText := true, laidKinds := [.data, .data, .data], laidTests := true, laidLooks := .later }
def WordIncludesCardSaid : Prop := Claim7.holds Tryz.pinned (.plain (OpenSpec.ofChange wordIncludesSpec)) wordIncludesCard

/-- THE SECOND FORM's CARD OF 'familychecklaw06.WordImages'. -/
def wordImagesUptoCard : Claim7 := { stood := { row := wordImagesUptoRow, standIns := [], harness := (true, "fc6021f947ae280e8b1573e9bc9cdcd8ed585aaad0a8dddccec74b8c3798ff21"), looks := true }, kinds := [], alts := [], laidByText := true, laidKinds := [.data, .data, .data], laidTests := true, laidLooks := .later }
def WordImagesUptoCardSaid : Prop := Claim7.holds Tryz.pinned (.plain (OpenSpec.upto wordImagesSpec)) wordImagesUptoCard

/-- THE SECOND FORM's CARD OF 'familychecklaw06.WordJoins'. -/
def wordJoinsUptoCard : Claim7 := { stood := { row := wordJoinsUptoRow, standIns := [], harness := (true, "fc6021f947ae280e8b1573e9bc9cdcd8ed585aaad0a8dddccec74b8c3798ff21"), looks := true }, kinds := [], alts := [], laidByText := true, laidKinds := [.data, .data, .data], laidTests := true, laidLooks := .later }
def WordJoinsUptoCardSaid : Prop := Claim7.holds Tryz.pinned (.plain (OpenSpec.upto wordJoinsSpec)) wordJoinsUptoCard

/-- THE SECOND FORM's CARD OF 'familychecklaw06.WordIncludes'. -/
def wordIncludesUptoCard : Claim7 := { stood := { row := wordIncludesUptoRow, standIns := [], harness := (true, "fc6021f947ae280e8b1573e9bc9cdcd8ed585aaad0a8dddccec74b8c3798ff21"), looks := true }, kinds := [], alts := [], laidByText := true, laidKinds := [.data, .data, .data], laidTests := true, laidLooks := .later }
def WordIncludesUptoCardSaid : Prop := Claim7.holds Tryz.pinned (.plain (OpenSpec.upto wordIncludesSpec)) wordIncludesUptoCard
end Rows
end Go.Proofs.YtakpmdmjbgipiaaGreatDoor
