/-
  DERIVED. GIVEN WITH THE SEED: THE CARDS: each row of YtpmceapjnnkhjaaDoorRows.lean that lists a variable, with what it lists TIED to the program's text (the seventh form; the later family's looks); each row that meets fmt, with fmt's text TOLD by the authors' own Lean function (tested against real Go, not proved from fmt's source: count such statements apart). THE CARD IS WHAT COUNTS. Prove the row's statement (the work); the ties are given (YtpmceapjnnkhjaaDoorTie.lean); close each card by the builder's one call (the guide's Derived/Test/ToyasCard.lean, 'card_holds'). Laid BY PROGRAM, IN A SANDBOX (cutbox-door.mjs). By AI agents, Wed Nov 11 2026. No macro, syntax, notation, axiom, sorry.
-/
import Derived.Test.YtpmceapjnnkhjaaDoorRows
import GoSem.ClaimSeven
namespace Go.Proofs.YtpmceapjnnkhjaaDoor
namespace Rows

/-- THE TIED CARD OF 'familychecklaw06.WordValidates'. -/
def wordValidatesCard : Claim7 := { stood := { row := wordValidatesRow, standIns := [], harness := (true, "6daf4f740c5c153ba95715f286d9de89d8df7fc8863bab305309aec69a24d890"), looks := true }, kinds := [], alts := [], laidByText := true, laidKinds := [.data, .data, .data], laidTests := true, laidLooks := .later }
def WordValidatesCardSaid : Prop := Claim7.holds Tryd.pinned (.plain (OpenSpec.ofChange wordValidatesSpec)) wordValidatesCard

/-- THE TIED CARD OF 'familychecklaw06.WordMinimals'. -/
def wordMinimalsCard : Claim7 := { stood := { row := wordMinimalsRow, standIns := [], harness := (true, "6daf4f740c5c153ba95715f286d9de89d8df7fc8863bab305309aec69a24d890"), looks := true }, kinds := [], alts := [], laidByText := true, laidKinds := [.data, .data, .data], laidTests := true, laidLooks := .later }
def WordMinimalsCardSaid : Prop := Claim7.holds Tryd.pinned (.plain (OpenSpec.ofChange wordMinimalsSpec)) wordMinimalsCard

/-- THE TIED CARD OF 'familychecklaw06.WordShortest'. -/
def wordShortestCard : Claim7 := { stood := { row := wordShortestRow, standIns := [], harness := (true, "6daf4f740c5c153ba95715f286d9de89d8df7fc8863bab305309aec69a24d890"), looks := true }, kinds := [], alts := [], laidByText := true, laidKinds := [.data, .data, .data], laidTests := true, laidLooks := .later }
def WordShortestCardSaid : Prop := Claim7.holds Tryd.pinned (.plain (OpenSpec.ofChange wordShortestSpec)) wordShortestCard

/-- THE TIED CARD OF 'familychecklaw06.WordAccepts'. -/
def wordAcceptsCard : Claim7 := { stood := { row := wordAcceptsRow, standIns := [], harness := (true, "6daf4f740c5c153ba95715f286d9de89d8df7fc8863bab305309aec69a24d890"), looks := true }, kinds := [], alts := [], laidByText := true, laidKinds := [.data, .data, .data], laidTests := true, laidLooks := .later }
def WordAcceptsCardSaid : Prop := Claim7.holds Tryd.pinned (.plain (OpenSpec.ofChange wordAcceptsSpec)) wordAcceptsCard

/-- THE TIED CARD OF 'familychecklaw06.WordMinimalKeeps'. -/
def wordMinimalKeepsCard : Claim7 := { stood := { row := wordMinimalKeepsRow, standIns := [], harness := (true, "6daf4f740c5c153ba95715f286d9de89d8df7fc8863bab305309aec69a24d890"), looks := true }, kinds := [], alts := [], laidByText := true, laidKinds := [.data, .data, .data], laidTests := true, laidLooks := .later }
def WordMinimalKeepsCardSaid : Prop := Claim7.holds Tryd.pinned (.plain (OpenSpec.ofChange wordMinimalKeepsSpec)) wordMinimalKeepsCard

/-- THE TIED CARD OF 'familychecklaw06.WordShortestFirst'. -/
def wordShortestFirstCard : Claim7 := { stood := { row := wordShortestFirstRow, standIns := [], harness := (true, "6daf4f740c5c153ba95715f286d9de89d8df7fc8863bab305309aec69a24d890"), looks := true }, kinds := [], alts := [], laidByText := true, laidKinds := [.data, .data, .data], laidTests := true, laidLooks := .later }
def WordShortestFirstCardSaid : Prop := Claim7.holds Tryd.pinned (.plain (OpenSpec.ofChange wordShortestFirstSpec)) wordShortestFirstCard

/-- THE TIED CARD OF 'familychecklaw06.WordRelates'. -/
def wordRelatesCard : Claim7 := { stood := { row := wordRelatesRow, standIns := [], harness := (true, "6daf4f740c5c153ba95715f286d9de89d8df7fc8863bab305309aec69a24d890"), looks := true }, kinds := [], alts := [], laidByText := true, laidKinds := [.data, .data, .data], laidTests := true, laidLooks := .later }
def WordRelatesCardSaid : Prop := Claim7.holds Tryd.pinned (.plain (OpenSpec.ofChange wordRelatesSpec)) wordRelatesCard

/-- THE TIED CARD OF 'familychecklaw06.WordComplements'. -/
def wordComplementsCard : Claim7 := { stood := { row := wordComplementsRow, standIns := [], harness := (true, "6daf4f740c5c153ba95715f286d9de89d8df7fc8863bab305309aec69a24d890"), looks := true }, kinds := [], alts := [], laidByText := true, laidKinds := [.data, .data, .data], laidTests := true, laidLooks := .later }
def WordComplementsCardSaid : Prop := Claim7.holds Tryd.pinned (.plain (OpenSpec.ofChange wordComplementsSpec)) wordComplementsCard

/-- THE TIED CARD OF 'familychecklaw06.WordWords'. -/
def wordWordsCard : Claim7 := { stood := { row := wordWordsRow, standIns := [], harness := (true, "6daf4f740c5c153ba95715f286d9de89d8df7fc8863bab305309aec69a24d890"), looks := true }, kinds := [], alts := [], laidByText := true, laidKinds := [.data, .data, .data], laidTests := true, laidLooks := .later }
def WordWordsCardSaid : Prop := Claim7.holds Tryd.pinned (.plain (OpenSpec.ofChange wordWordsSpec)) wordWordsCard

/-- THE TIED CARD OF 'familychecklaw06.WordMerges'. -/
def wordMergesCard : Claim7 := { stood := { row := wordMergesRow, standIns := [], harness := (true, "6daf4f740c5c153ba95715f286d9de89d8df7fc8863bab305309aec69a24d890"), looks := true }, kinds := [], alts := [], laidByText := true, laidKinds := [.data, .data, .data], laidTests := true, laidLooks := .later }
def WordMergesCardSaid : Prop := Claim7.holds Tryd.pinned (.plain (OpenSpec.ofChange wordMergesSpec)) wordMergesCard

/-- THE TIED CARD OF 'familychecklaw06.WordMergeContains'. -/
def wordMergeContainsCard : Claim7 := { stood := { row := wordMergeContainsRow, standIns := [], harness := (true, "6daf4f740c5c153ba95715f286d9de89d8df7fc8863bab305309aec69a24d890"), looks := true }, kinds := [], alts := [], laidByText := true, laidKinds := [.data, .data, .data], laidTests := true, laidLooks := .later }
def WordMergeContainsCardSaid : Prop := Claim7.holds Tryd.pinned (.plain (OpenSpec.ofChange wordMergeContainsSpec)) wordMergeContainsCard

/-- THE TIED CARD OF 'familychecklaw06.WordMorgan'. -/
def wordMorganCard : Claim7 := { stood := { row := wordMorganRow, standIns := [], harness := (true, "6daf4f740c5c153ba95715f286d9de89d8df7fc8863bab305309aec69a24d890"), looks := true }, kinds := [], alts := [], laidByText := true, laidKinds := [.data, .data, .data], laidTests := true, laidLooks := .later }
def WordMorganCardSaid : Prop := Claim7.holds Tryd.pinned (.plain (OpenSpec.ofChange wordMorganSpec)) wordMorganCard

/-- THE TIED CARD OF 'familychecklaw06.WordJoinMeans'. -/
def wordJoinMeansCard : Claim7 := { stood := { row := wordJoinMeansRow, standIns := [], harness := (true, "6daf4f740c5c153ba95715f286d9de89d8df7fc8863bab305309aec69a24d890"), looks := true }, kinds := [], alts := [], laidByText := true, laidKinds := [.data, .data, .data], laidTests := true, laidLooks := .later }
def WordJoinMeansCardSaid : Prop := Claim7.holds Tryd.pinned (.plain (OpenSpec.ofChange wordJoinMeansSpec)) wordJoinMeansCard

/-- THE TIED CARD OF 'familychecklaw06.WordImageMeans'. -/
def wordImageMeansCard : Claim7 := { stood := { row := wordImageMeansRow, standIns := [], harness := (true, "6daf4f740c5c153ba95715f286d9de89d8df7fc8863bab305309aec69a24d890"), looks := true }, kinds := [], alts := [], laidByText := true, laidKinds := [.data, .data, .data], laidTests := true, laidLooks := .later }
def WordImageMeansCardSaid : Prop := Claim7.holds Tryd.pinned (.plain (OpenSpec.ofChange wordImageMeansSpec)) wordImageMeansCard

/-- THE TIED CARD OF 'familychecklaw06.WordIncludedMeans'. -/
def wordIncludedMeansCard : Claim7 := { stood := { row := wordIncludedMeansRow, standIns := [], harness := (true, "6daf4f740c5c153ba95715f286d9de89d8df7fc8863bab305309aec69a24d890"), looks := true }, kinds := [], alts := [], laidByText := true, laidKinds := [.data, .data, .data], laidTests := true, laidLooks := .later }
def WordIncludedMeansCardSaid : Prop := Claim7.holds Tryd.pinned (.plain (OpenSpec.ofChange wordIncludedMeansSpec)) wordIncludedMeansCard

/-- THE SECOND FORM's CARD OF 'familychecklaw06.WordValidates'. -/
def wordValidatesUptoCard : Claim7 := { stood := { row := wordValidatesUptoRow, standIns := [], harness := (true, "6daf4f740c5c153ba95715f286d9de89d8df7fc8863bab305309aec69a24d890"), looks := true }, kinds := [], alts := [], laidByText := true, laidKinds := [.data, .data, .data], laidTests := true, laidLooks := .later }
def WordValidatesUptoCardSaid : Prop := Claim7.holds Tryd.pinned (.plain (OpenSpec.upto wordValidatesSpec)) wordValidatesUptoCard

/-- THE SECOND FORM's CARD OF 'familychecklaw06.WordMinimals'. -/
def wordMinimalsUptoCard : Claim7 := { stood := { row := wordMinimalsUptoRow, standIns := [], harness := (true, "6daf4f740c5c153ba95715f286d9de89d8df7fc8863bab305309aec69a24d890"), looks := true }, kinds := [], alts := [], laidByText := true, laidKinds := [.data, .data, .data], laidTests := true, laidLooks := .later }
def WordMinimalsUptoCardSaid : Prop := Claim7.holds Tryd.pinned (.plain (OpenSpec.upto wordMinimalsSpec)) wordMinimalsUptoCard

/-- THE SECOND FORM's CARD OF 'familychecklaw06.WordShortest'. -/
def wordShortestUptoCard : Claim7 := { stood := { row := wordShortestUptoRow, standIns := [], harness := (true, "6daf4f740c5c153ba95715f286d9de89d8df7fc8863bab305309aec69a24d890"), looks := true }, kinds := [], alts := [], laidByText := true, laidKinds := [.data, .data, .data], laidTests := true, laidLooks := .later }
def WordShortestUptoCardSaid : Prop := Claim7.holds Tryd.pinned (.plain (OpenSpec.upto wordShortestSpec)) wordShortestUptoCard

/-- THE SECOND FORM's CARD OF 'familychecklaw06.WordAccepts'. -/
def wordAcceptsUptoCard : Claim7 := { stood := { row := wordAcceptsUptoRow, standIns := [], harness := (true, "6daf4f740c5c153ba95715f286d9de89d8df7fc8863bab305309aec69a24d890"), looks := true }, kinds := [], alts := [], laidByText := true, laidKinds := [.data, .data, .data], laidTests := true, laidLooks := .later }
def WordAcceptsUptoCardSaid : Prop := Claim7.holds Tryd.pinned (.plain (OpenSpec.upto wordAcceptsSpec)) wordAcceptsUptoCard

/-- THE SECOND FORM's CARD OF 'familychecklaw06.WordMinimalKeeps'. -/
def wordMinimalKeepsUptoCard : Claim7 := { stood := { row := wordMinimalKeepsUptoRow, standIns := [], harness := (true, "6daf4f740c5c153ba95715f286d9de89d8df7fc8863bab305309aec69a24d890"), looks := true }, kinds := [], alts := [], laidByText := true, laidKinds := [.data, .data, .data], laidTests := true, laidLooks := .later }
def WordMinimalKeepsUptoCardSaid : Prop := Claim7.holds Tryd.pinned (.plain (OpenSpec.upto wordMinimalKeepsSpec)) wordMinimalKeepsUptoCard

/-- THE SECOND FORM's CARD OF 'familychecklaw06.WordShortestFirst'. -/
def wordShortestFirstUptoCard : Claim7 := { stood := { row := wordShortestFirstUptoRow, standIns := [], harness := (true, "6daf4f740c5c153ba95715f286d9de89d8df7fc8863bab305309aec69a24d890"), looks := true }, kinds := [], alts := [], laidByText := true, laidKinds := [.data, .data, .data], laidTests := true, laidLooks := .later }
def WordShortestFirstUptoCardSaid : Prop := Claim7.holds Tryd.pinned (.plain (OpenSpec.upto wordShortestFirstSpec)) wordShortestFirstUptoCard

/-- THE SECOND FORM's CARD OF 'familychecklaw06.WordRelates'. -/
def wordRelatesUptoCard : Claim7 := { stood := { row := wordRelatesUptoRow, standIns := [], harness := (true, "6daf4f740c5c153ba95715f286d9de89d8df7fc8863bab305309aec69a24d890"), looks := true }, kinds := [], alts := [], laidByText := true, laidKinds := [.data, .data, .data], laidTests := true, laidLooks := .later }
def WordRelatesUptoCardSaid : Prop := Claim7.holds Tryd.pinned (.plain (OpenSpec.upto wordRelatesSpec)) wordRelatesUptoCard

/-- THE SECOND FORM's CARD OF 'familychecklaw06.WordComplements'. -/
def wordComplementsUptoCard : Claim7 := { stood := { row := wordComplementsUptoRow, standIns := [], harness := (true, "6daf4f740c5c153ba95715f286d9de89d8df7fc8863bab305309aec69a24d890"), looks := true }, kinds := [], alts := [], laidByText := true, laidKinds := [.data, .data, .data], laidTests := true, laidLooks := .later }
def WordComplementsUptoCardSaid : Prop := Claim7.holds Tryd.pinned (.plain (OpenSpec.upto wordComplementsSpec)) wordComplementsUptoCard

/-- THE SECOND FORM's CARD OF 'familychecklaw06.WordWords'. -/
def wordWordsUptoCard : Claim7 := { stood := { row := wordWordsUptoRow, standIns := [], harness := (true, "6daf4f740c5c153ba95715f286d9de89d8df7fc8863bab305309aec69a24d890"), looks := true }, kinds := [], alts := [], laidByText := true, laidKinds := [.data, .data, .data], laidTests := true, laidLooks := .later }
def WordWordsUptoCardSaid : Prop := Claim7.holds Tryd.pinned (.plain (OpenSpec.upto wordWordsSpec)) wordWordsUptoCard

/-- THE SECOND FORM's CARD OF 'familychecklaw06.WordMerges'. -/
def wordMergesUptoCard : Claim7 := { stood := { row := wordMergesUptoRow, standIns := [], harness := (true, "6daf4f740c5c153ba95715f286d9de89d8df7fc8863bab305309aec69a24d890"), looks := true }, kinds := [], alts := [], laidByText := true, laidKinds := [.data, .data, .data], laidTests := true, laidLooks := .later }
def WordMergesUptoCardSaid : Prop := Claim7.holds Tryd.pinned (.plain (OpenSpec.upto wordMergesSpec)) wordMergesUptoCard

/-- THE SECOND FORM's CARD OF 'familychecklaw06.WordMergeContains'. -/
def wordMergeContainsUptoCard : Claim7 := { stood := { row := wordMergeContainsUptoRow, standIns := [], harness := (true, "6daf4f740c5c153ba95715f286d9de89d8df7fc8863bab305309aec69a24d890"), looks := true }, kinds := [], alts := [], laidByText := true, laidKinds := [.data, .data, .data], laidTests := true, laidLooks := .later }
def WordMergeContainsUptoCardSaid : Prop := Claim7.holds Tryd.pinned (.plain (OpenSpec.upto wordMergeContainsSpec)) wordMergeContainsUptoCard

/-- THE SECOND FORM's CARD OF 'familychecklaw06.WordMorgan'. -/
def wordMorganUptoCard : Claim7 := { stood := { row := wordMorganUptoRow, standIns := [], harness := (true, "6daf4f740c5c153ba95715f286d9de89d8df7fc8863bab305309aec69a24d890"), looks := true }, kinds := [], alts := [], laidByText := true, laidKinds := [.data, .data, .data], laidTests := true, laidLooks := .later }
def WordMorganUptoCardSaid : Prop := Claim7.holds Tryd.pinned (.plain (OpenSpec.upto wordMorganSpec)) wordMorganUptoCard

/-- THE SECOND FORM's CARD OF 'familychecklaw06.WordJoinMeans'. -/
def wordJoinMeansUptoCard : Claim7 := { stood := { row := wordJoinMeansUptoRow, standIns := [], harness := (true, "6daf4f740c5c153ba95715f286d9de89d8df7fc8863bab305309aec69a24d890"), looks := true }, kinds := [], alts := [], laidByText := true, laidKinds := [.data, .data, .data], laidTests := true, laidLooks := .later }
def WordJoinMeansUptoCardSaid : Prop := Claim7.holds Tryd.pinned (.plain (OpenSpec.upto wordJoinMeansSpec)) wordJoinMeansUptoCard

/-- THE SECOND FORM's CARD OF 'familychecklaw06.WordImageMeans'. -/
def wordImageMeansUptoCard : Claim7 := { stood := { row := wordImageMeansUptoRow, standIns := [], harness := (true, "6daf4f740c5c153ba95715f286d9de89d8df7fc8863bab305309aec69a24d890"), looks := true }, kinds := [], alts := [], laidByText := true, laidKinds := [.data, .data, .data], laidTests := true, laidLooks := .later }
def WordImageMeansUptoCardSaid : Prop := Claim7.holds Tryd.pinned (.plain (OpenSpec.upto wordImageMeansSpec)) wordImageMeansUptoCard

/-- THE SECOND FORM's CARD OF 'familychecklaw06.WordIncludedMeans'. -/
def wordIncludedMeansUptoCard : Claim7 := { stood := { row := wordIncludedMeansUptoRow, standIns := [], harness := (true, "6daf4f740c5c153ba95715f286d9de89d8df7fc8863bab305309aec69a24d890"), looks := true }, kinds := [], alts := [], laidByText := true, laidKinds := [.data, .data, .data], laidTests := true, laidLooks := .later }
def WordIncludedMeansUptoCardSaid : Prop := Claim7.holds Tryd.pinned (.plain (OpenSpec.upto wordIncludedMeansSpec)) wordIncludedMeansUptoCard
end Rows
end Go.Proofs.YtpmceapjnnkhjaaDoor
