/-
  No cell of these rows narrows 'for every input' (looked for: loops, veiled, ifaces, maps, wideKeys, modest, calm, conditions, laid).
  DERIVED. THE GIVEN ROWS OF THIS SEAT. 13 by the template 'for every input the law returns true; each argument reads behind the call as it read before'; 0 by the template 'total and deterministic' (their statements: YtnimlcbgeiajiaaTotals.lean).
  GIVEN WITH THE SEED: the statements are not yours to turn. If you find one false, say at which input.
  Laid BY PROGRAM, IN A SANDBOX (cutbox-rows.mjs): the forced cells as the released guide's own fill.sh prints them over the translation 44d40605da4f8a76… (all of the seat's roots in one cut). By AI agents, Wed Nov 11 2026. No macro, syntax, notation, axiom, sorry.
-/
import Derived.Test.YtnimlcbgeiajiaaChecked
import GoSem.Claim
import GoSem.ClaimJoined
import GoSem.ClaimMapViews
import Derived.JoinedTies
import Derived.KernelRfl
namespace Go.Proofs.Ytnimlcbgeiajiaa
/- THE CELL 'sum', in the pinned program and in every row, IS THE sha256 OF THE DUMP (.gsa) THAT YtnimlcbgeiajiaaProg.lean LOADS. Nothing in Lean hashes anything: it is a label: what it is worth is what the hold of that sum in a sandbox is worth. -/
noncomputable def Try.pinned : Pinned := { name := "ytnimlcbgeiajiaa", sum := "44d40605da4f8a76bb3597c922264a06ae0b75acea740b76be8c5a1eb2674446", checked := Try.checked }
namespace Rows
def none {H : Type} : Left H := { results := [], args := [] }

/-- 'familychecklaw07.TreeValidates': WHATEVER THE INPUT: true; the input reads as it did. -/
def treeValidatesSpec : ChangeSpec := { name := "treeValidates", fn := fun _ => fun
  | [d] => { results := [.lit (.bool true)], args := [d] }
  | _ => none }
def treeValidatesRow : OpenClaim := { program := "ytnimlcbgeiajiaa", sum := "44d40605da4f8a76bb3597c922264a06ae0b75acea740b76be8c5a1eb2674446", func := "familycheck/familychecklaw07.TreeValidates", spec := "treeValidates", unfollowed := true, recurses := true, plainKeys := false, apart := false }
def TreeValidatesSaid : Prop := treeValidatesRow.holds Try.pinned (OpenSpec.ofChange treeValidatesSpec)

/-- ITS FALSE NEIGHBOUR: 'it returns false'. Refute it at one input. -/
def treeValidatesWrong : ChangeSpec := { name := "treeValidates", fn := fun _ => fun
  | [d] => { results := [.lit (.bool false)], args := [d] }
  | _ => none }
def TreeValidatesWrongFalsely : Prop := treeValidatesRow.holds Try.pinned (OpenSpec.ofChange treeValidatesWrong)

/-- 'familychecklaw07.TreeMinimals': WHATEVER THE INPUT: true; the input reads as it did. -/
def treeMinimalsSpec : ChangeSpec := { name := "treeMinimals", fn := fun _ => fun
  | [d] => { results := [.lit (.bool true)], args := [d] }
  | _ => none }
def treeMinimalsRow : OpenClaim := { program := "ytnimlcbgeiajiaa", sum := "44d40605da4f8a76bb3597c922264a06ae0b75acea740b76be8c5a1eb2674446", func := "familycheck/familychecklaw07.TreeMinimals", spec := "treeMinimals", unfollowed := true, recurses := true, plainKeys := false, apart := false }
def TreeMinimalsSaid : Prop := treeMinimalsRow.holds Try.pinned (OpenSpec.ofChange treeMinimalsSpec)

/-- ITS FALSE NEIGHBOUR: 'it returns false'. Refute it at one input. -/
def treeMinimalsWrong : ChangeSpec := { name := "treeMinimals", fn := fun _ => fun
  | [d] => { results := [.lit (.bool false)], args := [d] }
  | _ => none }
def TreeMinimalsWrongFalsely : Prop := treeMinimalsRow.holds Try.pinned (OpenSpec.ofChange treeMinimalsWrong)

/-- 'familychecklaw07.TreeMerges': WHATEVER THE INPUT: true; the input reads as it did. -/
def treeMergesSpec : ChangeSpec := { name := "treeMerges", fn := fun _ => fun
  | [d1, d2] => { results := [.lit (.bool true)], args := [d1, d2] }
  | _ => none }
def treeMergesRow : OpenClaim := { program := "ytnimlcbgeiajiaa", sum := "44d40605da4f8a76bb3597c922264a06ae0b75acea740b76be8c5a1eb2674446", func := "familycheck/familychecklaw07.TreeMerges", spec := "treeMerges", unfollowed := true, recurses := true, plainKeys := false, apart := false }
def TreeMergesSaid : Prop := treeMergesRow.holds Try.pinned (OpenSpec.ofChange treeMergesSpec)

/-- ITS FALSE NEIGHBOUR: 'it returns false'. Refute it at one input. -/
def treeMergesWrong : ChangeSpec := { name := "treeMerges", fn := fun _ => fun
  | [d1, d2] => { results := [.lit (.bool false)], args := [d1, d2] }
  | _ => none }
def TreeMergesWrongFalsely : Prop := treeMergesRow.holds Try.pinned (OpenSpec.ofChange treeMergesWrong)

/-- 'familychecklaw07.TreeAccepts': WHATEVER THE INPUT: true; the input reads as it did. -/
def treeAcceptsSpec : ChangeSpec := { name := "treeAccepts", fn := fun _ => fun
  | [d1, d2] => { results := [.lit (.bool true)], args := [d1, d2] }
  | _ => none }
def treeAcceptsRow : OpenClaim := { program := "ytnimlcbgeiajiaa", sum := "44d40605da4f8a76bb3597c922264a06ae0b75acea740b76be8c5a1eb2674446", func := "familycheck/familychecklaw07.TreeAccepts", spec := "treeAccepts", unfollowed := true, recurses := true, plainKeys := false, apart := false }
def TreeAcceptsSaid : Prop := treeAcceptsRow.holds Try.pinned (OpenSpec.ofChange treeAcceptsSpec)

/-- ITS FALSE NEIGHBOUR: 'it returns false'. Refute it at one input. -/
def treeAcceptsWrong : ChangeSpec := { name := "treeAccepts", fn := fun _ => fun
  | [d1, d2] => { results := [.lit (.bool false)], args := [d1, d2] }
  | _ => none }
def TreeAcceptsWrongFalsely : Prop := treeAcceptsRow.holds Try.pinned (OpenSpec.ofChange treeAcceptsWrong)

/-- 'familychecklaw07.TreeMinimalKeeps': WHATEVER THE INPUT: true; the input reads as it did. -/
def treeMinimalKeepsSpec : ChangeSpec := { name := "treeMinimalKeeps", fn := fun _ => fun
  | [d1, d2] => { results := [.lit (.bool true)], args := [d1, d2] }
  | _ => none }
def treeMinimalKeepsRow : OpenClaim := { program := "ytnimlcbgeiajiaa", sum := "44d40605da4f8a76bb3597c922264a06ae0b75acea740b76be8c5a1eb2674446", func := "familycheck/familychecklaw07.TreeMinimalKeeps", spec := "treeMinimalKeeps", unfollowed := true, recurses := true, plainKeys := false, apart := false }
def TreeMinimalKeepsSaid : Prop := treeMinimalKeepsRow.holds Try.pinned (OpenSpec.ofChange treeMinimalKeepsSpec)

/-- ITS FALSE NEIGHBOUR: 'it returns false'. Refute it at one input. -/
def treeMinimalKeepsWrong : ChangeSpec := { name := "treeMinimalKeeps", fn := fun _ => fun
  | [d1, d2] => { results := [.lit (.bool false)], args := [d1, d2] }
  | _ => none }
def TreeMinimalKeepsWrongFalsely : Prop := treeMinimalKeepsRow.holds Try.pinned (OpenSpec.ofChange treeMinimalKeepsWrong)

/-- 'familychecklaw07.TreeWitnesses': WHATEVER THE INPUT: true; the input reads as it did. -/
def treeWitnessesSpec : ChangeSpec := { name := "treeWitnesses", fn := fun _ => fun
  | [d] => { results := [.lit (.bool true)], args := [d] }
  | _ => none }
def treeWitnessesRow : OpenClaim := { program := "ytnimlcbgeiajiaa", sum := "44d40605da4f8a76bb3597c922264a06ae0b75acea740b76be8c5a1eb2674446", func := "familycheck/familychecklaw07.TreeWitnesses", spec := "treeWitnesses", unfollowed := true, recurses := true, plainKeys := false, apart := false }
def TreeWitnessesSaid : Prop := treeWitnessesRow.holds Try.pinned (OpenSpec.ofChange treeWitnessesSpec)

/-- ITS FALSE NEIGHBOUR: 'it returns false'. Refute it at one input. -/
def treeWitnessesWrong : ChangeSpec := { name := "treeWitnesses", fn := fun _ => fun
  | [d] => { results := [.lit (.bool false)], args := [d] }
  | _ => none }
def TreeWitnessesWrongFalsely : Prop := treeWitnessesRow.holds Try.pinned (OpenSpec.ofChange treeWitnessesWrong)

/-- 'familychecklaw07.TreeComplements': WHATEVER THE INPUT: true; the input reads as it did. -/
def treeComplementsSpec : ChangeSpec := { name := "treeComplements", fn := fun _ => fun
  | [d1, d2] => { results := [.lit (.bool true)], args := [d1, d2] }
  | _ => none }
def treeComplementsRow : OpenClaim := { program := "ytnimlcbgeiajiaa", sum := "44d40605da4f8a76bb3597c922264a06ae0b75acea740b76be8c5a1eb2674446", func := "familycheck/familychecklaw07.TreeComplements", spec := "treeComplements", unfollowed := true, recurses := true, plainKeys := false, apart := false }
def TreeComplementsSaid : Prop := treeComplementsRow.holds Try.pinned (OpenSpec.ofChange treeComplementsSpec)

/-- ITS FALSE NEIGHBOUR: 'it returns false'. Refute it at one input. -/
def treeComplementsWrong : ChangeSpec := { name := "treeComplements", fn := fun _ => fun
  | [d1, d2] => { results := [.lit (.bool false)], args := [d1, d2] }
  | _ => none }
def TreeComplementsWrongFalsely : Prop := treeComplementsRow.holds Try.pinned (OpenSpec.ofChange treeComplementsWrong)

/-- 'familychecklaw07.TreeJoins': WHATEVER THE INPUT: true; the input reads as it did. -/
def treeJoinsSpec : ChangeSpec := { name := "treeJoins", fn := fun _ => fun
  | [d] => { results := [.lit (.bool true)], args := [d] }
  | _ => none }
def treeJoinsRow : OpenClaim := { program := "ytnimlcbgeiajiaa", sum := "44d40605da4f8a76bb3597c922264a06ae0b75acea740b76be8c5a1eb2674446", func := "familycheck/familychecklaw07.TreeJoins", spec := "treeJoins", unfollowed := true, recurses := true, plainKeys := false, apart := false }
def TreeJoinsSaid : Prop := treeJoinsRow.holds Try.pinned (OpenSpec.ofChange treeJoinsSpec)

/-- ITS FALSE NEIGHBOUR: 'it returns false'. Refute it at one input. -/
def treeJoinsWrong : ChangeSpec := { name := "treeJoins", fn := fun _ => fun
  | [d] => { results := [.lit (.bool false)], args := [d] }
  | _ => none }
def TreeJoinsWrongFalsely : Prop := treeJoinsRow.holds Try.pinned (OpenSpec.ofChange treeJoinsWrong)

/-- 'familychecklaw07.TreeMergeContains': WHATEVER THE INPUT: true; the input reads as it did. -/
def treeMergeContainsSpec : ChangeSpec := { name := "treeMergeContains", fn := fun _ => fun
  | [d1, d2, d3] => { results := [.lit (.bool true)], args := [d1, d2, d3] }
  | _ => none }
def treeMergeContainsRow : OpenClaim := { program := "ytnimlcbgeiajiaa", sum := "44d40605da4f8a76bb3597c922264a06ae0b75acea740b76be8c5a1eb2674446", func := "familycheck/familychecklaw07.TreeMergeContains", spec := "treeMergeContains", unfollowed := true, recurses := true, plainKeys := false, apart := false }
def TreeMergeContainsSaid : Prop := treeMergeContainsRow.holds Try.pinned (OpenSpec.ofChange treeMergeContainsSpec)

/-- ITS FALSE NEIGHBOUR: 'it returns false'. Refute it at one input. -/
def treeMergeContainsWrong : ChangeSpec := { name := "treeMergeContains", fn := fun _ => fun
  | [d1, d2, d3] => { results := [.lit (.bool false)], args := [d1, d2, d3] }
  | _ => none }
def TreeMergeContainsWrongFalsely : Prop := treeMergeContainsRow.holds Try.pinned (OpenSpec.ofChange treeMergeContainsWrong)

/-- 'familychecklaw07.TreeIncludes': WHATEVER THE INPUT: true; the input reads as it did. -/
def treeIncludesSpec : ChangeSpec := { name := "treeIncludes", fn := fun _ => fun
  | [d1, d2] => { results := [.lit (.bool true)], args := [d1, d2] }
  | _ => none }
def treeIncludesRow : OpenClaim := { program := "ytnimlcbgeiajiaa", sum := "44d40605da4f8a76bb3597c922264a06ae0b75acea740b76be8c5a1eb2674446", func := "familycheck/familychecklaw07.TreeIncludes", spec := "treeIncludes", unfollowed := true, recurses := true, plainKeys := false, apart := false }
def TreeIncludesSaid : Prop := treeIncludesRow.holds Try.pinned (OpenSpec.ofChange treeIncludesSpec)

/-- ITS FALSE NEIGHBOUR: 'it returns false'. Refute it at one input. -/
def treeIncludesWrong : ChangeSpec := { name := "treeIncludes", fn := fun _ => fun
  | [d1, d2] => { results := [.lit (.bool false)], args := [d1, d2] }
  | _ => none }
def TreeIncludesWrongFalsely : Prop := treeIncludesRow.holds Try.pinned (OpenSpec.ofChange treeIncludesWrong)

/-- 'familychecklaw07.TreeWitnessLeast': WHATEVER THE INPUT: true; the input reads as it did. -/
def treeWitnessLeastSpec : ChangeSpec := { name := "treeWitnessLeast", fn := fun _ => fun
  | [d1, d2] => { results := [.lit (.bool true)], args := [d1, d2] }
  | _ => none }
def treeWitnessLeastRow : OpenClaim := { program := "ytnimlcbgeiajiaa", sum := "44d40605da4f8a76bb3597c922264a06ae0b75acea740b76be8c5a1eb2674446", func := "familycheck/familychecklaw07.TreeWitnessLeast", spec := "treeWitnessLeast", unfollowed := true, recurses := true, plainKeys := false, apart := false }
def TreeWitnessLeastSaid : Prop := treeWitnessLeastRow.holds Try.pinned (OpenSpec.ofChange treeWitnessLeastSpec)

/-- ITS FALSE NEIGHBOUR: 'it returns false'. Refute it at one input. -/
def treeWitnessLeastWrong : ChangeSpec := { name := "treeWitnessLeast", fn := fun _ => fun
  | [d1, d2] => { results := [.lit (.bool false)], args := [d1, d2] }
  | _ => none }
def TreeWitnessLeastWrongFalsely : Prop := treeWitnessLeastRow.holds Try.pinned (OpenSpec.ofChange treeWitnessLeastWrong)

/-- 'familychecklaw07.TreeJoinMeans': WHATEVER THE INPUT: true; the input reads as it did. -/
def treeJoinMeansSpec : ChangeSpec := { name := "treeJoinMeans", fn := fun _ => fun
  | [d1, d2, d3] => { results := [.lit (.bool true)], args := [d1, d2, d3] }
  | _ => none }
def treeJoinMeansRow : OpenClaim := { program := "ytnimlcbgeiajiaa", sum := "44d40605da4f8a76bb3597c922264a06ae0b75acea740b76be8c5a1eb2674446", func := "familycheck/familychecklaw07.TreeJoinMeans", spec := "treeJoinMeans", unfollowed := true, recurses := true, plainKeys := false, apart := false }
def TreeJoinMeansSaid : Prop := treeJoinMeansRow.holds Try.pinned (OpenSpec.ofChange treeJoinMeansSpec)

/-- ITS FALSE NEIGHBOUR: 'it returns false'. Refute it at one input. -/
def treeJoinMeansWrong : ChangeSpec := { name := "treeJoinMeans", fn := fun _ => fun
  | [d1, d2, d3] => { results := [.lit (.bool false)], args := [d1, d2, d3] }
  | _ => none }
def TreeJoinMeansWrongFalsely : Prop := treeJoinMeansRow.holds Try.pinned (OpenSpec.ofChange treeJoinMeansWrong)

/-- 'familychecklaw07.TreeIncludedMeans': WHATEVER THE INPUT: true; the input reads as it did. -/
def treeIncludedMeansSpec : ChangeSpec := { name := "treeIncludedMeans", fn := fun _ => fun
  | [d1, d2, d3] => { results := [.lit (.bool true)], args := [d1, d2, d3] }
  | _ => none }
def treeIncludedMeansRow : OpenClaim := { program := "ytnimlcbgeiajiaa", sum := "44d40605da4f8a76bb3597c922264a06ae0b75acea740b76be8c5a1eb2674446", func := "familycheck/familychecklaw07.TreeIncludedMeans", spec := "treeIncludedMeans", unfollowed := true, recurses := true, plainKeys := false, apart := false }
def TreeIncludedMeansSaid : Prop := treeIncludedMeansRow.holds Try.pinned (OpenSpec.ofChange treeIncludedMeansSpec)

/-- ITS FALSE NEIGHBOUR: 'it returns false'. Refute it at one input. -/
def treeIncludedMeansWrong : ChangeSpec := { name := "treeIncludedMeans", fn := fun _ => fun
  | [d1, d2, d3] => { results := [.lit (.bool false)], args := [d1, d2, d3] }
  | _ => none }
def TreeIncludedMeansWrongFalsely : Prop := treeIncludedMeansRow.holds Try.pinned (OpenSpec.ofChange treeIncludedMeansWrong)

/- THE SECOND FORM. 'bulk': how many values and letters a reading holds, each counted each time it is reached (what is shared counts as often as it is met; a slice's spare places count too). A statement '..UptoSaid' is the law's where the arguments, and the package variables that the reading takes, are together of bulk at most 1048576: NARROWER than '..Said'. Prove '..Said' where nothing that the law and all that it calls make is longer than what came in: it says more and counts as full. Else prove '..UptoSaid'. A law counts once. -/
mutual
def uptoBulk {H : Type} : DataW H → Nat
  | .lit (.string bytes) => bytes.length + 1
  | .lit _ => 1
  | .nil => 1
  | .ptr d => uptoBulk d + 1
  | .slice elems spare => uptoBulkAll elems + uptoBulkAll spare + 1
  | .agg parts => uptoBulkAll parts + 1
  | .iface _ d => uptoBulk d + 1
  | .map entries => uptoBulkEntries entries + 1
  | .held _ => 1
def uptoBulkAll {H : Type} : List (DataW H) → Nat
  | [] => 0
  | d :: r => uptoBulk d + uptoBulkAll r
def uptoBulkEntries {H : Type} : List (Lit × DataW H) → Nat
  | [] => 0
  | x :: r => uptoBulkEntry x + uptoBulkEntries r
def uptoBulkEntry {H : Type} : Lit × DataW H → Nat
  | (.string bytes, d) => bytes.length + uptoBulk d + 1
  | (_, d) => uptoBulk d + 1
 end
def uptoSmall : (H : Type) → List (DataW H) → Bool := fun _ ds => decide (uptoBulkAll ds ≤ 1048576)
def OpenSpec.upto (s : _root_.Go.ChangeSpec) : _root_.Go.OpenSpec := { _root_.Go.OpenSpec.ofChange s with cond := some uptoSmall }

/-- 'familychecklaw07.TreeValidates', WHERE WHAT IT READS IS OF BULK AT MOST 1048576: true; the input reads as it did. -/
def treeValidatesUptoRow : OpenClaim := { program := "ytnimlcbgeiajiaa", sum := "44d40605da4f8a76bb3597c922264a06ae0b75acea740b76be8c5a1eb2674446", func := "familycheck/familychecklaw07.TreeValidates", spec := "treeValidates", unfollowed := true, recurses := true, plainKeys := false, apart := false, narrowed := true }
def TreeValidatesUptoSaid : Prop := treeValidatesUptoRow.holds Try.pinned (OpenSpec.upto treeValidatesSpec)

/-- 'familychecklaw07.TreeMinimals', WHERE WHAT IT READS IS OF BULK AT MOST 1048576: true; the input reads as it did. -/
def treeMinimalsUptoRow : OpenClaim := { program := "ytnimlcbgeiajiaa", sum := "44d40605da4f8a76bb3597c922264a06ae0b75acea740b76be8c5a1eb2674446", func := "familycheck/familychecklaw07.TreeMinimals", spec := "treeMinimals", unfollowed := true, recurses := true, plainKeys := false, apart := false, narrowed := true }
def TreeMinimalsUptoSaid : Prop := treeMinimalsUptoRow.holds Try.pinned (OpenSpec.upto treeMinimalsSpec)

/-- 'familychecklaw07.TreeMerges', WHERE WHAT IT READS IS OF BULK AT MOST 1048576: true; the input reads as it did. -/
def treeMergesUptoRow : OpenClaim := { program := "ytnimlcbgeiajiaa", sum := "44d40605da4f8a76bb3597c922264a06ae0b75acea740b76be8c5a1eb2674446", func := "familycheck/familychecklaw07.TreeMerges", spec := "treeMerges", unfollowed := true, recurses := true, plainKeys := false, apart := false, narrowed := true }
def TreeMergesUptoSaid : Prop := treeMergesUptoRow.holds Try.pinned (OpenSpec.upto treeMergesSpec)

/-- 'familychecklaw07.TreeAccepts', WHERE WHAT IT READS IS OF BULK AT MOST 1048576: true; the input reads as it did. -/
def treeAcceptsUptoRow : OpenClaim := { program := "ytnimlcbgeiajiaa", sum := "44d40605da4f8a76bb3597c922264a06ae0b75acea740b76be8c5a1eb2674446", func := "familycheck/familychecklaw07.TreeAccepts", spec := "treeAccepts", unfollowed := true, recurses := true, plainKeys := false, apart := false, narrowed := true }
def TreeAcceptsUptoSaid : Prop := treeAcceptsUptoRow.holds Try.pinned (OpenSpec.upto treeAcceptsSpec)

/-- 'familychecklaw07.TreeMinimalKeeps', WHERE WHAT IT READS IS OF BULK AT MOST 1048576: true; the input reads as it did. -/
def treeMinimalKeepsUptoRow : OpenClaim := { program := "ytnimlcbgeiajiaa", sum := "44d40605da4f8a76bb3597c922264a06ae0b75acea740b76be8c5a1eb2674446", func := "familycheck/familychecklaw07.TreeMinimalKeeps", spec := "treeMinimalKeeps", unfollowed := true, recurses := true, plainKeys := false, apart := false, narrowed := true }
def TreeMinimalKeepsUptoSaid : Prop := treeMinimalKeepsUptoRow.holds Try.pinned (OpenSpec.upto treeMinimalKeepsSpec)

/-- 'familychecklaw07.TreeWitnesses', WHERE WHAT IT READS IS OF BULK AT MOST 1048576: true; the input reads as it did. -/
def treeWitnessesUptoRow : OpenClaim := { program := "ytnimlcbgeiajiaa", sum := "44d40605da4f8a76bb3597c922264a06ae0b75acea740b76be8c5a1eb2674446", func := "familycheck/familychecklaw07.TreeWitnesses", spec := "treeWitnesses", unfollowed := true, recurses := true, plainKeys := false, apart := false, narrowed := true }
def TreeWitnessesUptoSaid : Prop := treeWitnessesUptoRow.holds Try.pinned (OpenSpec.upto treeWitnessesSpec)

/-- 'familychecklaw07.TreeComplements', WHERE WHAT IT READS IS OF BULK AT MOST 1048576: true; the input reads as it did. -/
def treeComplementsUptoRow : OpenClaim := { program := "ytnimlcbgeiajiaa", sum := "44d40605da4f8a76bb3597c922264a06ae0b75acea740b76be8c5a1eb2674446", func := "familycheck/familychecklaw07.TreeComplements", spec := "treeComplements", unfollowed := true, recurses := true, plainKeys := false, apart := false, narrowed := true }
def TreeComplementsUptoSaid : Prop := treeComplementsUptoRow.holds Try.pinned (OpenSpec.upto treeComplementsSpec)

/-- 'familychecklaw07.TreeJoins', WHERE WHAT IT READS IS OF BULK AT MOST 1048576: true; the input reads as it did. -/
def treeJoinsUptoRow : OpenClaim := { program := "ytnimlcbgeiajiaa", sum := "44d40605da4f8a76bb3597c922264a06ae0b75acea740b76be8c5a1eb2674446", func := "familycheck/familychecklaw07.TreeJoins", spec := "treeJoins", unfollowed := true, recurses := true, plainKeys := false, apart := false, narrowed := true }
def TreeJoinsUptoSaid : Prop := treeJoinsUptoRow.holds Try.pinned (OpenSpec.upto treeJoinsSpec)

/-- 'familychecklaw07.TreeMergeContains', WHERE WHAT IT READS IS OF BULK AT MOST 1048576: true; the input reads as it did. -/
def treeMergeContainsUptoRow : OpenClaim := { program := "ytnimlcbgeiajiaa", sum := "44d40605da4f8a76bb3597c922264a06ae0b75acea740b76be8c5a1eb2674446", func := "familycheck/familychecklaw07.TreeMergeContains", spec := "treeMergeContains", unfollowed := true, recurses := true, plainKeys := false, apart := false, narrowed := true }
def TreeMergeContainsUptoSaid : Prop := treeMergeContainsUptoRow.holds Try.pinned (OpenSpec.upto treeMergeContainsSpec)

/-- 'familychecklaw07.TreeIncludes', WHERE WHAT IT READS IS OF BULK AT MOST 1048576: true; the input reads as it did. -/
def treeIncludesUptoRow : OpenClaim := { program := "ytnimlcbgeiajiaa", sum := "44d40605da4f8a76bb3597c922264a06ae0b75acea740b76be8c5a1eb2674446", func := "familycheck/familychecklaw07.TreeIncludes", spec := "treeIncludes", unfollowed := true, recurses := true, plainKeys := false, apart := false, narrowed := true }
def TreeIncludesUptoSaid : Prop := treeIncludesUptoRow.holds Try.pinned (OpenSpec.upto treeIncludesSpec)

/-- 'familychecklaw07.TreeWitnessLeast', WHERE WHAT IT READS IS OF BULK AT MOST 1048576: true; the input reads as it did. -/
def treeWitnessLeastUptoRow : OpenClaim := { program := "ytnimlcbgeiajiaa", sum := "44d40605da4f8a76bb3597c922264a06ae0b75acea740b76be8c5a1eb2674446", func := "familycheck/familychecklaw07.TreeWitnessLeast", spec := "treeWitnessLeast", unfollowed := true, recurses := true, plainKeys := false, apart := false, narrowed := true }
def TreeWitnessLeastUptoSaid : Prop := treeWitnessLeastUptoRow.holds Try.pinned (OpenSpec.upto treeWitnessLeastSpec)

/-- 'familychecklaw07.TreeJoinMeans', WHERE WHAT IT READS IS OF BULK AT MOST 1048576: true; the input reads as it did. -/
def treeJoinMeansUptoRow : OpenClaim := { program := "ytnimlcbgeiajiaa", sum := "44d40605da4f8a76bb3597c922264a06ae0b75acea740b76be8c5a1eb2674446", func := "familycheck/familychecklaw07.TreeJoinMeans", spec := "treeJoinMeans", unfollowed := true, recurses := true, plainKeys := false, apart := false, narrowed := true }
def TreeJoinMeansUptoSaid : Prop := treeJoinMeansUptoRow.holds Try.pinned (OpenSpec.upto treeJoinMeansSpec)

/-- 'familychecklaw07.TreeIncludedMeans', WHERE WHAT IT READS IS OF BULK AT MOST 1048576: true; the input reads as it did. -/
def treeIncludedMeansUptoRow : OpenClaim := { program := "ytnimlcbgeiajiaa", sum := "44d40605da4f8a76bb3597c922264a06ae0b75acea740b76be8c5a1eb2674446", func := "familycheck/familychecklaw07.TreeIncludedMeans", spec := "treeIncludedMeans", unfollowed := true, recurses := true, plainKeys := false, apart := false, narrowed := true }
def TreeIncludedMeansUptoSaid : Prop := treeIncludedMeansUptoRow.holds Try.pinned (OpenSpec.upto treeIncludedMeansSpec)

end Rows
end Go.Proofs.Ytnimlcbgeiajiaa
