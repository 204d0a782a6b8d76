/-
  NARROWER THAN 'FOR EVERY INPUT', by the rows' own cells (each row's printed sentence says how): WordValidates: laid · WordMinimals: laid · WordShortest: laid · WordAccepts: laid · WordMinimalKeeps: laid · WordShortestFirst: laid · WordRelates: laid · WordComplements: laid · WordWords: laid · WordMerges: laid · WordMergeContains: laid · WordMorgan: laid · WordJoinMeans: laid · WordImageMeans: laid · WordIncludedMeans: laid.
  DERIVED. THE GIVEN ROWS OF THIS SEAT. 15 by the template 'for every input the law returns true; each argument reads behind the call as it read before'; 0 by the template 'total and deterministic' (their statements: YtpmceapjnnkhjaaDoorTotals.lean).
  GIVEN WITH THE SEED: the statements are not yours to turn. If you find one false, say at which input.
  Laid BY PROGRAM, IN A SANDBOX (cutbox-rows.mjs): the forced cells as the released guide's own fill.sh prints them over the translation c833bf9fe189ef25… (all of the seat's roots in one cut). By AI agents, Wed Nov 11 2026. No macro, syntax, notation, axiom, sorry.
-/
import Derived.Test.YtpmceapjnnkhjaaDoorChecked
import GoSem.Claim
import GoSem.ClaimJoined
import GoSem.ClaimMapViews
import Derived.JoinedTies
import Derived.KernelRfl
namespace Go.Proofs.YtpmceapjnnkhjaaDoor
/- THE CELL 'sum', in the pinned program and in every row, IS THE sha256 OF THE DUMP (.gsa) THAT YtpmceapjnnkhjaaDoorProg.lean LOADS. Nothing in Lean hashes anything: it is a label: what it is worth is what the hold of that sum in a sandbox is worth. -/
noncomputable def Tryd.pinned : Pinned := { name := "ytpmceapjnnkhjaadoor", sum := "c833bf9fe189ef2519a4f5eade2dc5c9659e89ff01889b15967898ad15ad2a80", checked := Tryd.checked }
namespace Rows
def none {H : Type} : Left H := { results := [], args := [] }

/- WHAT THE LISTED PACKAGE-LEVEL VARIABLES READ AS WHEN THE CALL BEGINS. Each datum BY PROGRAM (the guide's laid-datum.mjs) off the statement by which the dump's own 'gosem.cut.vars' lays the variable. In a bare row this is a premise. The card (YtpmceapjnnkhjaaDoorCards.lean) ties it to the program's text. -/
def laid_math_bits_deBruijn32tab {H : Type} : DataW H := .agg [.lit (.int .u8 0), .lit (.int .u8 1), .lit (.int .u8 28), .lit (.int .u8 2), .lit (.int .u8 29), .lit (.int .u8 14), .lit (.int .u8 24), .lit (.int .u8 3), .lit (.int .u8 30), .lit (.int .u8 22), .lit (.int .u8 20), .lit (.int .u8 15), .lit (.int .u8 25), .lit (.int .u8 17), .lit (.int .u8 4), .lit (.int .u8 8), .lit (.int .u8 31), .lit (.int .u8 27), .lit (.int .u8 13), .lit (.int .u8 23), .lit (.int .u8 21), .lit (.int .u8 19), .lit (.int .u8 16), .lit (.int .u8 7), .lit (.int .u8 26), .lit (.int .u8 12), .lit (.int .u8 18), .lit (.int .u8 6), .lit (.int .u8 11), .lit (.int .u8 5), .lit (.int .u8 10), .lit (.int .u8 9)]
def laid_math_bits_deBruijn64tab {H : Type} : DataW H := .agg [.lit (.int .u8 0), .lit (.int .u8 1), .lit (.int .u8 56), .lit (.int .u8 2), .lit (.int .u8 57), .lit (.int .u8 49), .lit (.int .u8 28), .lit (.int .u8 3), .lit (.int .u8 61), .lit (.int .u8 58), .lit (.int .u8 42), .lit (.int .u8 50), .lit (.int .u8 38), .lit (.int .u8 29), .lit (.int .u8 17), .lit (.int .u8 4), .lit (.int .u8 62), .lit (.int .u8 47), .lit (.int .u8 59), .lit (.int .u8 36), .lit (.int .u8 45), .lit (.int .u8 43), .lit (.int .u8 51), .lit (.int .u8 22), .lit (.int .u8 53), .lit (.int .u8 39), .lit (.int .u8 33), .lit (.int .u8 30), .lit (.int .u8 24), .lit (.int .u8 18), .lit (.int .u8 12), .lit (.int .u8 5), .lit (.int .u8 63), .lit (.int .u8 55), .lit (.int .u8 48), .lit (.int .u8 27), .lit (.int .u8 60), .lit (.int .u8 41), .lit (.int .u8 37), .lit (.int .u8 16), .lit (.int .u8 46), .lit (.int .u8 35), .lit (.int .u8 44), .lit (.int .u8 21), .lit (.int .u8 52), .lit (.int .u8 32), .lit (.int .u8 23), .lit (.int .u8 11), .lit (.int .u8 54), .lit (.int .u8 26), .lit (.int .u8 40), .lit (.int .u8 15), .lit (.int .u8 34), .lit (.int .u8 20), .lit (.int .u8 31), .lit (.int .u8 10), .lit (.int .u8 25), .lit (.int .u8 14), .lit (.int .u8 19), .lit (.int .u8 9), .lit (.int .u8 13), .lit (.int .u8 8), .lit (.int .u8 7), .lit (.int .u8 6)]
def laid_internal_strconv_uint64pow10 {H : Type} : DataW H := .agg [.lit (.int .u64 1), .lit (.int .u64 10), .lit (.int .u64 100), .lit (.int .u64 1000), .lit (.int .u64 10000), .lit (.int .u64 100000), .lit (.int .u64 1000000), .lit (.int .u64 10000000), .lit (.int .u64 100000000), .lit (.int .u64 1000000000), .lit (.int .u64 10000000000), .lit (.int .u64 100000000000), .lit (.int .u64 1000000000000), .lit (.int .u64 10000000000000), .lit (.int .u64 100000000000000), .lit (.int .u64 1000000000000000), .lit (.int .u64 10000000000000000), .lit (.int .u64 100000000000000000), .lit (.int .u64 1000000000000000000), .lit (.int .u64 10000000000000000000)]

/-- 'familychecklaw06.WordValidates': WHATEVER THE INPUT: true; the input reads as it did. -/
def wordValidatesSpec : ChangeSpec := { name := "wordValidates", fn := fun _ => fun
  | [d] => { results := [.lit (.bool true)], args := [d] }
  | _ => none }
def wordValidatesRow : OpenClaim := { program := "ytpmceapjnnkhjaadoor", sum := "c833bf9fe189ef2519a4f5eade2dc5c9659e89ff01889b15967898ad15ad2a80", func := "familycheck/familychecklaw06.WordValidates", spec := "wordValidates", inPlace := ["internal/abi.NoEscape"], unfollowed := true, recurses := true, named := ["internal/strconv.uint64pow10", "math/bits.deBruijn32tab", "math/bits.deBruijn64tab"], plainKeys := false, apart := false, laid := [("math/bits.deBruijn32tab", laid_math_bits_deBruijn32tab), ("math/bits.deBruijn64tab", laid_math_bits_deBruijn64tab), ("internal/strconv.uint64pow10", laid_internal_strconv_uint64pow10)] }
def WordValidatesSaid : Prop := wordValidatesRow.holds Tryd.pinned (OpenSpec.ofChange wordValidatesSpec)

/-- ITS FALSE NEIGHBOUR: 'it returns false'. Refute it at one input. -/
def wordValidatesWrong : ChangeSpec := { name := "wordValidates", fn := fun _ => fun
  | [d] => { results := [.lit (.bool false)], args := [d] }
  | _ => none }
def WordValidatesWrongFalsely : Prop := wordValidatesRow.holds Tryd.pinned (OpenSpec.ofChange wordValidatesWrong)

/-- 'familychecklaw06.WordMinimals': WHATEVER THE INPUT: true; the input reads as it did. -/
def wordMinimalsSpec : ChangeSpec := { name := "wordMinimals", fn := fun _ => fun
  | [d] => { results := [.lit (.bool true)], args := [d] }
  | _ => none }
def wordMinimalsRow : OpenClaim := { program := "ytpmceapjnnkhjaadoor", sum := "c833bf9fe189ef2519a4f5eade2dc5c9659e89ff01889b15967898ad15ad2a80", func := "familycheck/familychecklaw06.WordMinimals", spec := "wordMinimals", inPlace := ["internal/abi.NoEscape"], unfollowed := true, recurses := true, named := ["internal/strconv.uint64pow10", "math/bits.deBruijn32tab", "math/bits.deBruijn64tab"], plainKeys := false, apart := false, laid := [("math/bits.deBruijn32tab", laid_math_bits_deBruijn32tab), ("math/bits.deBruijn64tab", laid_math_bits_deBruijn64tab), ("internal/strconv.uint64pow10", laid_internal_strconv_uint64pow10)] }
def WordMinimalsSaid : Prop := wordMinimalsRow.holds Tryd.pinned (OpenSpec.ofChange wordMinimalsSpec)

/-- ITS FALSE NEIGHBOUR: 'it returns false'. Refute it at one input. -/
def wordMinimalsWrong : ChangeSpec := { name := "wordMinimals", fn := fun _ => fun
  | [d] => { results := [.lit (.bool false)], args := [d] }
  | _ => none }
def WordMinimalsWrongFalsely : Prop := wordMinimalsRow.holds Tryd.pinned (OpenSpec.ofChange wordMinimalsWrong)

/-- 'familychecklaw06.WordShortest': WHATEVER THE INPUT: true; the input reads as it did. -/
def wordShortestSpec : ChangeSpec := { name := "wordShortest", fn := fun _ => fun
  | [d] => { results := [.lit (.bool true)], args := [d] }
  | _ => none }
def wordShortestRow : OpenClaim := { program := "ytpmceapjnnkhjaadoor", sum := "c833bf9fe189ef2519a4f5eade2dc5c9659e89ff01889b15967898ad15ad2a80", func := "familycheck/familychecklaw06.WordShortest", spec := "wordShortest", inPlace := ["internal/abi.NoEscape"], unfollowed := true, recurses := true, named := ["internal/strconv.uint64pow10", "math/bits.deBruijn32tab", "math/bits.deBruijn64tab"], plainKeys := false, apart := false, laid := [("math/bits.deBruijn32tab", laid_math_bits_deBruijn32tab), ("math/bits.deBruijn64tab", laid_math_bits_deBruijn64tab), ("internal/strconv.uint64pow10", laid_internal_strconv_uint64pow10)] }
def WordShortestSaid : Prop := wordShortestRow.holds Tryd.pinned (OpenSpec.ofChange wordShortestSpec)

/-- ITS FALSE NEIGHBOUR: 'it returns false'. Refute it at one input. -/
def wordShortestWrong : ChangeSpec := { name := "wordShortest", fn := fun _ => fun
  | [d] => { results := [.lit (.bool false)], args := [d] }
  | _ => none }
def WordShortestWrongFalsely : Prop := wordShortestRow.holds Tryd.pinned (OpenSpec.ofChange wordShortestWrong)

/-- 'familychecklaw06.WordAccepts': WHATEVER THE INPUT: true; the input reads as it did. -/
def wordAcceptsSpec : ChangeSpec := { name := "wordAccepts", fn := fun _ => fun
  | [d1, d2] => { results := [.lit (.bool true)], args := [d1, d2] }
  | _ => none }
def wordAcceptsRow : OpenClaim := { program := "ytpmceapjnnkhjaadoor", sum := "c833bf9fe189ef2519a4f5eade2dc5c9659e89ff01889b15967898ad15ad2a80", func := "familycheck/familychecklaw06.WordAccepts", spec := "wordAccepts", inPlace := ["internal/abi.NoEscape"], unfollowed := true, recurses := true, named := ["internal/strconv.uint64pow10", "math/bits.deBruijn32tab", "math/bits.deBruijn64tab"], plainKeys := false, apart := false, laid := [("math/bits.deBruijn32tab", laid_math_bits_deBruijn32tab), ("math/bits.deBruijn64tab", laid_math_bits_deBruijn64tab), ("internal/strconv.uint64pow10", laid_internal_strconv_uint64pow10)] }
def WordAcceptsSaid : Prop := wordAcceptsRow.holds Tryd.pinned (OpenSpec.ofChange wordAcceptsSpec)

/-- ITS FALSE NEIGHBOUR: 'it returns false'. Refute it at one input. -/
def wordAcceptsWrong : ChangeSpec := { name := "wordAccepts", fn := fun _ => fun
  | [d1, d2] => { results := [.lit (.bool false)], args := [d1, d2] }
  | _ => none }
def WordAcceptsWrongFalsely : Prop := wordAcceptsRow.holds Tryd.pinned (OpenSpec.ofChange wordAcceptsWrong)

/-- 'familychecklaw06.WordMinimalKeeps': WHATEVER THE INPUT: true; the input reads as it did. -/
def wordMinimalKeepsSpec : ChangeSpec := { name := "wordMinimalKeeps", fn := fun _ => fun
  | [d1, d2] => { results := [.lit (.bool true)], args := [d1, d2] }
  | _ => none }
def wordMinimalKeepsRow : OpenClaim := { program := "ytpmceapjnnkhjaadoor", sum := "c833bf9fe189ef2519a4f5eade2dc5c9659e89ff01889b15967898ad15ad2a80", func := "familycheck/familychecklaw06.WordMinimalKeeps", spec := "wordMinimalKeeps", inPlace := ["internal/abi.NoEscape"], unfollowed := true, recurses := true, named := ["internal/strconv.uint64pow10", "math/bits.deBruijn32tab", "math/bits.deBruijn64tab"], plainKeys := false, apart := false, laid := [("math/bits.deBruijn32tab", laid_math_bits_deBruijn32tab), ("math/bits.deBruijn64tab", laid_math_bits_deBruijn64tab), ("internal/strconv.uint64pow10", laid_internal_strconv_uint64pow10)] }
def WordMinimalKeepsSaid : Prop := wordMinimalKeepsRow.holds Tryd.pinned (OpenSpec.ofChange wordMinimalKeepsSpec)

/-- ITS FALSE NEIGHBOUR: 'it returns false'. Refute it at one input. -/
def wordMinimalKeepsWrong : ChangeSpec := { name := "wordMinimalKeeps", fn := fun _ => fun
  | [d1, d2] => { results := [.lit (.bool false)], args := [d1, d2] }
  | _ => none }
def WordMinimalKeepsWrongFalsely : Prop := wordMinimalKeepsRow.holds Tryd.pinned (OpenSpec.ofChange wordMinimalKeepsWrong)

/-- 'familychecklaw06.WordShortestFirst': WHATEVER THE INPUT: true; the input reads as it did. -/
def wordShortestFirstSpec : ChangeSpec := { name := "wordShortestFirst", fn := fun _ => fun
  | [d1, d2] => { results := [.lit (.bool true)], args := [d1, d2] }
  | _ => none }
def wordShortestFirstRow : OpenClaim := { program := "ytpmceapjnnkhjaadoor", sum := "c833bf9fe189ef2519a4f5eade2dc5c9659e89ff01889b15967898ad15ad2a80", func := "familycheck/familychecklaw06.WordShortestFirst", spec := "wordShortestFirst", inPlace := ["internal/abi.NoEscape"], unfollowed := true, recurses := true, named := ["internal/strconv.uint64pow10", "math/bits.deBruijn32tab", "math/bits.deBruijn64tab"], plainKeys := false, apart := false, laid := [("math/bits.deBruijn32tab", laid_math_bits_deBruijn32tab), ("math/bits.deBruijn64tab", laid_math_bits_deBruijn64tab), ("internal/strconv.uint64pow10", laid_internal_strconv_uint64pow10)] }
def WordShortestFirstSaid : Prop := wordShortestFirstRow.holds Tryd.pinned (OpenSpec.ofChange wordShortestFirstSpec)

/-- ITS FALSE NEIGHBOUR: 'it returns false'. Refute it at one input. -/
def wordShortestFirstWrong : ChangeSpec := { name := "wordShortestFirst", fn := fun _ => fun
  | [d1, d2] => { results := [.lit (.bool false)], args := [d1, d2] }
  | _ => none }
def WordShortestFirstWrongFalsely : Prop := wordShortestFirstRow.holds Tryd.pinned (OpenSpec.ofChange wordShortestFirstWrong)

/-- 'familychecklaw06.WordRelates': WHATEVER THE INPUT: true; the input reads as it did. -/
def wordRelatesSpec : ChangeSpec := { name := "wordRelates", fn := fun _ => fun
  | [d1, d2, d3] => { results := [.lit (.bool true)], args := [d1, d2, d3] }
  | _ => none }
def wordRelatesRow : OpenClaim := { program := "ytpmceapjnnkhjaadoor", sum := "c833bf9fe189ef2519a4f5eade2dc5c9659e89ff01889b15967898ad15ad2a80", func := "familycheck/familychecklaw06.WordRelates", spec := "wordRelates", inPlace := ["internal/abi.NoEscape"], unfollowed := true, recurses := true, named := ["internal/strconv.uint64pow10", "math/bits.deBruijn32tab", "math/bits.deBruijn64tab"], plainKeys := false, apart := false, laid := [("math/bits.deBruijn32tab", laid_math_bits_deBruijn32tab), ("math/bits.deBruijn64tab", laid_math_bits_deBruijn64tab), ("internal/strconv.uint64pow10", laid_internal_strconv_uint64pow10)] }
def WordRelatesSaid : Prop := wordRelatesRow.holds Tryd.pinned (OpenSpec.ofChange wordRelatesSpec)

/-- ITS FALSE NEIGHBOUR: 'it returns false'. Refute it at one input. -/
def wordRelatesWrong : ChangeSpec := { name := "wordRelates", fn := fun _ => fun
  | [d1, d2, d3] => { results := [.lit (.bool false)], args := [d1, d2, d3] }
  | _ => none }
def WordRelatesWrongFalsely : Prop := wordRelatesRow.holds Tryd.pinned (OpenSpec.ofChange wordRelatesWrong)

/-- 'familychecklaw06.WordComplements': WHATEVER THE INPUT: true; the input reads as it did. -/
def wordComplementsSpec : ChangeSpec := { name := "wordComplements", fn := fun _ => fun
  | [d1, d2] => { results := [.lit (.bool true)], args := [d1, d2] }
  | _ => none }
def wordComplementsRow : OpenClaim := { program := "ytpmceapjnnkhjaadoor", sum := "c833bf9fe189ef2519a4f5eade2dc5c9659e89ff01889b15967898ad15ad2a80", func := "familycheck/familychecklaw06.WordComplements", spec := "wordComplements", inPlace := ["internal/abi.NoEscape"], unfollowed := true, recurses := true, named := ["internal/strconv.uint64pow10", "math/bits.deBruijn32tab", "math/bits.deBruijn64tab"], plainKeys := false, apart := false, laid := [("math/bits.deBruijn32tab", laid_math_bits_deBruijn32tab), ("math/bits.deBruijn64tab", laid_math_bits_deBruijn64tab), ("internal/strconv.uint64pow10", laid_internal_strconv_uint64pow10)] }
def WordComplementsSaid : Prop := wordComplementsRow.holds Tryd.pinned (OpenSpec.ofChange wordComplementsSpec)

/-- ITS FALSE NEIGHBOUR: 'it returns false'. Refute it at one input. -/
def wordComplementsWrong : ChangeSpec := { name := "wordComplements", fn := fun _ => fun
  | [d1, d2] => { results := [.lit (.bool false)], args := [d1, d2] }
  | _ => none }
def WordComplementsWrongFalsely : Prop := wordComplementsRow.holds Tryd.pinned (OpenSpec.ofChange wordComplementsWrong)

/-- 'familychecklaw06.WordWords': WHATEVER THE INPUT: true; the input reads as it did. -/
def wordWordsSpec : ChangeSpec := { name := "wordWords", fn := fun _ => fun
  | [d1, d2] => { results := [.lit (.bool true)], args := [d1, d2] }
  | _ => none }
def wordWordsRow : OpenClaim := { program := "ytpmceapjnnkhjaadoor", sum := "c833bf9fe189ef2519a4f5eade2dc5c9659e89ff01889b15967898ad15ad2a80", func := "familycheck/familychecklaw06.WordWords", spec := "wordWords", inPlace := ["internal/abi.NoEscape"], unfollowed := true, recurses := true, named := ["internal/strconv.uint64pow10", "math/bits.deBruijn32tab", "math/bits.deBruijn64tab"], plainKeys := false, apart := false, laid := [("math/bits.deBruijn32tab", laid_math_bits_deBruijn32tab), ("math/bits.deBruijn64tab", laid_math_bits_deBruijn64tab), ("internal/strconv.uint64pow10", laid_internal_strconv_uint64pow10)] }
def WordWordsSaid : Prop := wordWordsRow.holds Tryd.pinned (OpenSpec.ofChange wordWordsSpec)

/-- ITS FALSE NEIGHBOUR: 'it returns false'. Refute it at one input. -/
def wordWordsWrong : ChangeSpec := { name := "wordWords", fn := fun _ => fun
  | [d1, d2] => { results := [.lit (.bool false)], args := [d1, d2] }
  | _ => none }
def WordWordsWrongFalsely : Prop := wordWordsRow.holds Tryd.pinned (OpenSpec.ofChange wordWordsWrong)

/-- 'familychecklaw06.WordMerges': WHATEVER THE INPUT: true; the input reads as it did. -/
def wordMergesSpec : ChangeSpec := { name := "wordMerges", fn := fun _ => fun
  | [d1, d2] => { results := [.lit (.bool true)], args := [d1, d2] }
  | _ => none }
def wordMergesRow : OpenClaim := { program := "ytpmceapjnnkhjaadoor", sum := "c833bf9fe189ef2519a4f5eade2dc5c9659e89ff01889b15967898ad15ad2a80", func := "familycheck/familychecklaw06.WordMerges", spec := "wordMerges", inPlace := ["internal/abi.NoEscape"], unfollowed := true, recurses := true, named := ["internal/strconv.uint64pow10", "math/bits.deBruijn32tab", "math/bits.deBruijn64tab"], plainKeys := false, apart := false, laid := [("math/bits.deBruijn32tab", laid_math_bits_deBruijn32tab), ("math/bits.deBruijn64tab", laid_math_bits_deBruijn64tab), ("internal/strconv.uint64pow10", laid_internal_strconv_uint64pow10)] }
def WordMergesSaid : Prop := wordMergesRow.holds Tryd.pinned (OpenSpec.ofChange wordMergesSpec)

/-- ITS FALSE NEIGHBOUR: 'it returns false'. Refute it at one input. -/
def wordMergesWrong : ChangeSpec := { name := "wordMerges", fn := fun _ => fun
  | [d1, d2] => { results := [.lit (.bool false)], args := [d1, d2] }
  | _ => none }
def WordMergesWrongFalsely : Prop := wordMergesRow.holds Tryd.pinned (OpenSpec.ofChange wordMergesWrong)

/-- 'familychecklaw06.WordMergeContains': WHATEVER THE INPUT: true; the input reads as it did. -/
def wordMergeContainsSpec : ChangeSpec := { name := "wordMergeContains", fn := fun _ => fun
  | [d1, d2, d3] => { results := [.lit (.bool true)], args := [d1, d2, d3] }
  | _ => none }
def wordMergeContainsRow : OpenClaim := { program := "ytpmceapjnnkhjaadoor", sum := "c833bf9fe189ef2519a4f5eade2dc5c9659e89ff01889b15967898ad15ad2a80", func := "familycheck/familychecklaw06.WordMergeContains", spec := "wordMergeContains", inPlace := ["internal/abi.NoEscape"], unfollowed := true, recurses := true, named := ["internal/strconv.uint64pow10", "math/bits.deBruijn32tab", "math/bits.deBruijn64tab"], plainKeys := false, apart := false, laid := [("math/bits.deBruijn32tab", laid_math_bits_deBruijn32tab), ("math/bits.deBruijn64tab", laid_math_bits_deBruijn64tab), ("internal/strconv.uint64pow10", laid_internal_strconv_uint64pow10)] }
def WordMergeContainsSaid : Prop := wordMergeContainsRow.holds Tryd.pinned (OpenSpec.ofChange wordMergeContainsSpec)

/-- ITS FALSE NEIGHBOUR: 'it returns false'. Refute it at one input. -/
def wordMergeContainsWrong : ChangeSpec := { name := "wordMergeContains", fn := fun _ => fun
  | [d1, d2, d3] => { results := [.lit (.bool false)], args := [d1, d2, d3] }
  | _ => none }
def WordMergeContainsWrongFalsely : Prop := wordMergeContainsRow.holds Tryd.pinned (OpenSpec.ofChange wordMergeContainsWrong)

/-- 'familychecklaw06.WordMorgan': WHATEVER THE INPUT: true; the input reads as it did. -/
def wordMorganSpec : ChangeSpec := { name := "wordMorgan", fn := fun _ => fun
  | [d1, d2] => { results := [.lit (.bool true)], args := [d1, d2] }
  | _ => none }
def wordMorganRow : OpenClaim := { program := "ytpmceapjnnkhjaadoor", sum := "c833bf9fe189ef2519a4f5eade2dc5c9659e89ff01889b15967898ad15ad2a80", func := "familycheck/familychecklaw06.WordMorgan", spec := "wordMorgan", inPlace := ["internal/abi.NoEscape"], unfollowed := true, recurses := true, named := ["internal/strconv.uint64pow10", "math/bits.deBruijn32tab", "math/bits.deBruijn64tab"], plainKeys := false, apart := false, laid := [("math/bits.deBruijn32tab", laid_math_bits_deBruijn32tab), ("math/bits.deBruijn64tab", laid_math_bits_deBruijn64tab), ("internal/strconv.uint64pow10", laid_internal_strconv_uint64pow10)] }
def WordMorganSaid : Prop := wordMorganRow.holds Tryd.pinned (OpenSpec.ofChange wordMorganSpec)

/-- ITS FALSE NEIGHBOUR: 'it returns false'. Refute it at one input. -/
def wordMorganWrong : ChangeSpec := { name := "wordMorgan", fn := fun _ => fun
  | [d1, d2] => { results := [.lit (.bool false)], args := [d1, d2] }
  | _ => none }
def WordMorganWrongFalsely : Prop := wordMorganRow.holds Tryd.pinned (OpenSpec.ofChange wordMorganWrong)

/-- 'familychecklaw06.WordJoinMeans': WHATEVER THE INPUT: true; the input reads as it did. -/
def wordJoinMeansSpec : ChangeSpec := { name := "wordJoinMeans", fn := fun _ => fun
  | [d1, d2, d3] => { results := [.lit (.bool true)], args := [d1, d2, d3] }
  | _ => none }
def wordJoinMeansRow : OpenClaim := { program := "ytpmceapjnnkhjaadoor", sum := "c833bf9fe189ef2519a4f5eade2dc5c9659e89ff01889b15967898ad15ad2a80", func := "familycheck/familychecklaw06.WordJoinMeans", spec := "wordJoinMeans", inPlace := ["internal/abi.NoEscape"], unfollowed := true, recurses := true, named := ["internal/strconv.uint64pow10", "math/bits.deBruijn32tab", "math/bits.deBruijn64tab"], plainKeys := false, apart := false, laid := [("math/bits.deBruijn32tab", laid_math_bits_deBruijn32tab), ("math/bits.deBruijn64tab", laid_math_bits_deBruijn64tab), ("internal/strconv.uint64pow10", laid_internal_strconv_uint64pow10)] }
def WordJoinMeansSaid : Prop := wordJoinMeansRow.holds Tryd.pinned (OpenSpec.ofChange wordJoinMeansSpec)

/-- ITS FALSE NEIGHBOUR: 'it returns false'. Refute it at one input. -/
def wordJoinMeansWrong : ChangeSpec := { name := "wordJoinMeans", fn := fun _ => fun
  | [d1, d2, d3] => { results := [.lit (.bool false)], args := [d1, d2, d3] }
  | _ => none }
def WordJoinMeansWrongFalsely : Prop := wordJoinMeansRow.holds Tryd.pinned (OpenSpec.ofChange wordJoinMeansWrong)

/-- 'familychecklaw06.WordImageMeans': WHATEVER THE INPUT: true; the input reads as it did. -/
def wordImageMeansSpec : ChangeSpec := { name := "wordImageMeans", fn := fun _ => fun
  | [d1, d2, d3] => { results := [.lit (.bool true)], args := [d1, d2, d3] }
  | _ => none }
def wordImageMeansRow : OpenClaim := { program := "ytpmceapjnnkhjaadoor", sum := "c833bf9fe189ef2519a4f5eade2dc5c9659e89ff01889b15967898ad15ad2a80", func := "familycheck/familychecklaw06.WordImageMeans", spec := "wordImageMeans", inPlace := ["internal/abi.NoEscape"], unfollowed := true, recurses := true, named := ["internal/strconv.uint64pow10", "math/bits.deBruijn32tab", "math/bits.deBruijn64tab"], plainKeys := false, apart := false, laid := [("math/bits.deBruijn32tab", laid_math_bits_deBruijn32tab), ("math/bits.deBruijn64tab", laid_math_bits_deBruijn64tab), ("internal/strconv.uint64pow10", laid_internal_strconv_uint64pow10)] }
def WordImageMeansSaid : Prop := wordImageMeansRow.holds Tryd.pinned (OpenSpec.ofChange wordImageMeansSpec)

/-- ITS FALSE NEIGHBOUR: 'it returns false'. Refute it at one input. -/
def wordImageMeansWrong : ChangeSpec := { name := "wordImageMeans", fn := fun _ => fun
  | [d1, d2, d3] => { results := [.lit (.bool false)], args := [d1, d2, d3] }
  | _ => none }
def WordImageMeansWrongFalsely : Prop := wordImageMeansRow.holds Tryd.pinned (OpenSpec.ofChange wordImageMeansWrong)

/-- 'familychecklaw06.WordIncludedMeans': WHATEVER THE INPUT: true; the input reads as it did. -/
def wordIncludedMeansSpec : ChangeSpec := { name := "wordIncludedMeans", fn := fun _ => fun
  | [d1, d2, d3] => { results := [.lit (.bool true)], args := [d1, d2, d3] }
  | _ => none }
def wordIncludedMeansRow : OpenClaim := { program := "ytpmceapjnnkhjaadoor", sum := "c833bf9fe189ef2519a4f5eade2dc5c9659e89ff01889b15967898ad15ad2a80", func := "familycheck/familychecklaw06.WordIncludedMeans", spec := "wordIncludedMeans", inPlace := ["internal/abi.NoEscape"], unfollowed := true, recurses := true, named := ["internal/strconv.uint64pow10", "math/bits.deBruijn32tab", "math/bits.deBruijn64tab"], plainKeys := false, apart := false, laid := [("math/bits.deBruijn32tab", laid_math_bits_deBruijn32tab), ("math/bits.deBruijn64tab", laid_math_bits_deBruijn64tab), ("internal/strconv.uint64pow10", laid_internal_strconv_uint64pow10)] }
def WordIncludedMeansSaid : Prop := wordIncludedMeansRow.holds Tryd.pinned (OpenSpec.ofChange wordIncludedMeansSpec)

/-- ITS FALSE NEIGHBOUR: 'it returns false'. Refute it at one input. -/
def wordIncludedMeansWrong : ChangeSpec := { name := "wordIncludedMeans", fn := fun _ => fun
  | [d1, d2, d3] => { results := [.lit (.bool false)], args := [d1, d2, d3] }
  | _ => none }
def WordIncludedMeansWrongFalsely : Prop := wordIncludedMeansRow.holds Tryd.pinned (OpenSpec.ofChange wordIncludedMeansWrong)

/- THE SECOND FORM. 'bulk': how many values and letters a reading holds, each counted each time it is reached (what is shared counts as often as it is met; a slice's spare places count too). A statement '..UptoSaid' is the law's where the arguments, and the package variables that the reading takes, are together of bulk at most 1048576: NARROWER than '..Said'. Prove '..Said' where nothing that the law and all that it calls make is longer than what came in: it says more and counts as full. Else prove '..UptoSaid'. A law counts once. -/
mutual
def uptoBulk {H : Type} : DataW H → Nat
  | .lit (.string bytes) => bytes.length + 1
  | .lit _ => 1
  | .nil => 1
  | .ptr d => uptoBulk d + 1
  | .slice elems spare => uptoBulkAll elems + uptoBulkAll spare + 1
  | .agg parts => uptoBulkAll parts + 1
  | .iface _ d => uptoBulk d + 1
  | .map entries => uptoBulkEntries entries + 1
  | .held _ => 1
def uptoBulkAll {H : Type} : List (DataW H) → Nat
  | [] => 0
  | d :: r => uptoBulk d + uptoBulkAll r
def uptoBulkEntries {H : Type} : List (Lit × DataW H) → Nat
  | [] => 0
  | x :: r => uptoBulkEntry x + uptoBulkEntries r
def uptoBulkEntry {H : Type} : Lit × DataW H → Nat
  | (.string bytes, d) => bytes.length + uptoBulk d + 1
  | (_, d) => uptoBulk d + 1
 end
def uptoSmall : (H : Type) → List (DataW H) → Bool := fun _ ds => decide (uptoBulkAll ds ≤ 1048576)
def OpenSpec.upto (s : _root_.Go.ChangeSpec) : _root_.Go.OpenSpec := { _root_.Go.OpenSpec.ofChange s with cond := some uptoSmall }

/-- 'familychecklaw06.WordValidates', WHERE WHAT IT READS IS OF BULK AT MOST 1048576: true; the input reads as it did. -/
def wordValidatesUptoRow : OpenClaim := { program := "ytpmceapjnnkhjaadoor", sum := "c833bf9fe189ef2519a4f5eade2dc5c9659e89ff01889b15967898ad15ad2a80", func := "familycheck/familychecklaw06.WordValidates", spec := "wordValidates", inPlace := ["internal/abi.NoEscape"], unfollowed := true, recurses := true, named := ["internal/strconv.uint64pow10", "math/bits.deBruijn32tab", "math/bits.deBruijn64tab"], plainKeys := false, apart := false, laid := [("math/bits.deBruijn32tab", laid_math_bits_deBruijn32tab), ("math/bits.deBruijn64tab", laid_math_bits_deBruijn64tab), ("internal/strconv.uint64pow10", laid_internal_strconv_uint64pow10)], narrowed := true }
def WordValidatesUptoSaid : Prop := wordValidatesUptoRow.holds Tryd.pinned (OpenSpec.upto wordValidatesSpec)

/-- 'familychecklaw06.WordMinimals', WHERE WHAT IT READS IS OF BULK AT MOST 1048576: true; the input reads as it did. -/
def wordMinimalsUptoRow : OpenClaim := { program := "ytpmceapjnnkhjaadoor", sum := "c833bf9fe189ef2519a4f5eade2dc5c9659e89ff01889b15967898ad15ad2a80", func := "familycheck/familychecklaw06.WordMinimals", spec := "wordMinimals", inPlace := ["internal/abi.NoEscape"], unfollowed := true, recurses := true, named := ["internal/strconv.uint64pow10", "math/bits.deBruijn32tab", "math/bits.deBruijn64tab"], plainKeys := false, apart := false, laid := [("math/bits.deBruijn32tab", laid_math_bits_deBruijn32tab), ("math/bits.deBruijn64tab", laid_math_bits_deBruijn64tab), ("internal/strconv.uint64pow10", laid_internal_strconv_uint64pow10)], narrowed := true }
def WordMinimalsUptoSaid : Prop := wordMinimalsUptoRow.holds Tryd.pinned (OpenSpec.upto wordMinimalsSpec)

/-- 'familychecklaw06.WordShortest', WHERE WHAT IT READS IS OF BULK AT MOST 1048576: true; the input reads as it did. -/
def wordShortestUptoRow : OpenClaim := { program := "ytpmceapjnnkhjaadoor", sum := "c833bf9fe189ef2519a4f5eade2dc5c9659e89ff01889b15967898ad15ad2a80", func := "familycheck/familychecklaw06.WordShortest", spec := "wordShortest", inPlace := ["internal/abi.NoEscape"], unfollowed := true, recurses := true, named := ["internal/strconv.uint64pow10", "math/bits.deBruijn32tab", "math/bits.deBruijn64tab"], plainKeys := false, apart := false, laid := [("math/bits.deBruijn32tab", laid_math_bits_deBruijn32tab), ("math/bits.deBruijn64tab", laid_math_bits_deBruijn64tab), ("internal/strconv.uint64pow10", laid_internal_strconv_uint64pow10)], narrowed := true }
def WordShortestUptoSaid : Prop := wordShortestUptoRow.holds Tryd.pinned (OpenSpec.upto wordShortestSpec)

/-- 'familychecklaw06.WordAccepts', WHERE WHAT IT READS IS OF BULK AT MOST 1048576: true; the input reads as it did. -/
def wordAcceptsUptoRow : OpenClaim := { program := "ytpmceapjnnkhjaadoor", sum := "c833bf9fe189ef2519a4f5eade2dc5c9659e89ff01889b15967898ad15ad2a80", func := "familycheck/familychecklaw06.WordAccepts", spec := "wordAccepts", inPlace := ["internal/abi.NoEscape"], unfollowed := true, recurses := true, named := ["internal/strconv.uint64pow10", "math/bits.deBruijn32tab", "math/bits.deBruijn64tab"], plainKeys := false, apart := false, laid := [("math/bits.deBruijn32tab", laid_math_bits_deBruijn32tab), ("math/bits.deBruijn64tab", laid_math_bits_deBruijn64tab), ("internal/strconv.uint64pow10", laid_internal_strconv_uint64pow10)], narrowed := true }
def WordAcceptsUptoSaid : Prop := wordAcceptsUptoRow.holds Tryd.pinned (OpenSpec.upto wordAcceptsSpec)

/-- 'familychecklaw06.WordMinimalKeeps', WHERE WHAT IT READS IS OF BULK AT MOST 1048576: true; the input reads as it did. -/
def wordMinimalKeepsUptoRow : OpenClaim := { program := "ytpmceapjnnkhjaadoor", sum := "c833bf9fe189ef2519a4f5eade2dc5c9659e89ff01889b15967898ad15ad2a80", func := "familycheck/familychecklaw06.WordMinimalKeeps", spec := "wordMinimalKeeps", inPlace := ["internal/abi.NoEscape"], unfollowed := true, recurses := true, named := ["internal/strconv.uint64pow10", "math/bits.deBruijn32tab", "math/bits.deBruijn64tab"], plainKeys := false, apart := false, laid := [("math/bits.deBruijn32tab", laid_math_bits_deBruijn32tab), ("math/bits.deBruijn64tab", laid_math_bits_deBruijn64tab), ("internal/strconv.uint64pow10", laid_internal_strconv_uint64pow10)], narrowed := true }
def WordMinimalKeepsUptoSaid : Prop := wordMinimalKeepsUptoRow.holds Tryd.pinned (OpenSpec.upto wordMinimalKeepsSpec)

/-- 'familychecklaw06.WordShortestFirst', WHERE WHAT IT READS IS OF BULK AT MOST 1048576: true; the input reads as it did. -/
def wordShortestFirstUptoRow : OpenClaim := { program := "ytpmceapjnnkhjaadoor", sum := "c833bf9fe189ef2519a4f5eade2dc5c9659e89ff01889b15967898ad15ad2a80", func := "familycheck/familychecklaw06.WordShortestFirst", spec := "wordShortestFirst", inPlace := ["internal/abi.NoEscape"], unfollowed := true, recurses := true, named := ["internal/strconv.uint64pow10", "math/bits.deBruijn32tab", "math/bits.deBruijn64tab"], plainKeys := false, apart := false, laid := [("math/bits.deBruijn32tab", laid_math_bits_deBruijn32tab), ("math/bits.deBruijn64tab", laid_math_bits_deBruijn64tab), ("internal/strconv.uint64pow10", laid_internal_strconv_uint64pow10)], narrowed := true }
def WordShortestFirstUptoSaid : Prop := wordShortestFirstUptoRow.holds Tryd.pinned (OpenSpec.upto wordShortestFirstSpec)

/-- 'familychecklaw06.WordRelates', WHERE WHAT IT READS IS OF BULK AT MOST 1048576: true; the input reads as it did. -/
def wordRelatesUptoRow : OpenClaim := { program := "ytpmceapjnnkhjaadoor", sum := "c833bf9fe189ef2519a4f5eade2dc5c9659e89ff01889b15967898ad15ad2a80", func := "familycheck/familychecklaw06.WordRelates", spec := "wordRelates", inPlace := ["internal/abi.NoEscape"], unfollowed := true, recurses := true, named := ["internal/strconv.uint64pow10", "math/bits.deBruijn32tab", "math/bits.deBruijn64tab"], plainKeys := false, apart := false, laid := [("math/bits.deBruijn32tab", laid_math_bits_deBruijn32tab), ("math/bits.deBruijn64tab", laid_math_bits_deBruijn64tab), ("internal/strconv.uint64pow10", laid_internal_strconv_uint64pow10)], narrowed := true }
def WordRelatesUptoSaid : Prop := wordRelatesUptoRow.holds Tryd.pinned (OpenSpec.upto wordRelatesSpec)

/-- 'familychecklaw06.WordComplements', WHERE WHAT IT READS IS OF BULK AT MOST 1048576: true; the input reads as it did. -/
def wordComplementsUptoRow : OpenClaim := { program := "ytpmceapjnnkhjaadoor", sum := "c833bf9fe189ef2519a4f5eade2dc5c9659e89ff01889b15967898ad15ad2a80", func := "familycheck/familychecklaw06.WordComplements", spec := "wordComplements", inPlace := ["internal/abi.NoEscape"], unfollowed := true, recurses := true, named := ["internal/strconv.uint64pow10", "math/bits.deBruijn32tab", "math/bits.deBruijn64tab"], plainKeys := false, apart := false, laid := [("math/bits.deBruijn32tab", laid_math_bits_deBruijn32tab), ("math/bits.deBruijn64tab", laid_math_bits_deBruijn64tab), ("internal/strconv.uint64pow10", laid_internal_strconv_uint64pow10)], narrowed := true }
def WordComplementsUptoSaid : Prop := wordComplementsUptoRow.holds Tryd.pinned (OpenSpec.upto wordComplementsSpec)

/-- 'familychecklaw06.WordWords', WHERE WHAT IT READS IS OF BULK AT MOST 1048576: true; the input reads as it did. -/
def wordWordsUptoRow : OpenClaim := { program := "ytpmceapjnnkhjaadoor", sum := "c833bf9fe189ef2519a4f5eade2dc5c9659e89ff01889b15967898ad15ad2a80", func := "familycheck/familychecklaw06.WordWords", spec := "wordWords", inPlace := ["internal/abi.NoEscape"], unfollowed := true, recurses := true, named := ["internal/strconv.uint64pow10", "math/bits.deBruijn32tab", "math/bits.deBruijn64tab"], plainKeys := false, apart := false, laid := [("math/bits.deBruijn32tab", laid_math_bits_deBruijn32tab), ("math/bits.deBruijn64tab", laid_math_bits_deBruijn64tab), ("internal/strconv.uint64pow10", laid_internal_strconv_uint64pow10)], narrowed := true }
def WordWordsUptoSaid : Prop := wordWordsUptoRow.holds Tryd.pinned (OpenSpec.upto wordWordsSpec)

/-- 'familychecklaw06.WordMerges', WHERE WHAT IT READS IS OF BULK AT MOST 1048576: true; the input reads as it did. -/
def wordMergesUptoRow : OpenClaim := { program := "ytpmceapjnnkhjaadoor", sum := "c833bf9fe189ef2519a4f5eade2dc5c9659e89ff01889b15967898ad15ad2a80", func := "familycheck/familychecklaw06.WordMerges", spec := "wordMerges", inPlace := ["internal/abi.NoEscape"], unfollowed := true, recurses := true, named := ["internal/strconv.uint64pow10", "math/bits.deBruijn32tab", "math/bits.deBruijn64tab"], plainKeys := false, apart := false, laid := [("math/bits.deBruijn32tab", laid_math_bits_deBruijn32tab), ("math/bits.deBruijn64tab", laid_math_bits_deBruijn64tab), ("internal/strconv.uint64pow10", laid_internal_strconv_uint64pow10)], narrowed := true }
def WordMergesUptoSaid : Prop := wordMergesUptoRow.holds Tryd.pinned (OpenSpec.upto wordMergesSpec)

/-- 'familychecklaw06.WordMergeContains', WHERE WHAT IT READS IS OF BULK AT MOST 1048576: true; the input reads as it did. -/
def wordMergeContainsUptoRow : OpenClaim := { program := "ytpmceapjnnkhjaadoor", sum := "c833bf9fe189ef2519a4f5eade2dc5c9659e89ff01889b15967898ad15ad2a80", func := "familycheck/familychecklaw06.WordMergeContains", spec := "wordMergeContains", inPlace := ["internal/abi.NoEscape"], unfollowed := true, recurses := true, named := ["internal/strconv.uint64pow10", "math/bits.deBruijn32tab", "math/bits.deBruijn64tab"], plainKeys := false, apart := false, laid := [("math/bits.deBruijn32tab", laid_math_bits_deBruijn32tab), ("math/bits.deBruijn64tab", laid_math_bits_deBruijn64tab), ("internal/strconv.uint64pow10", laid_internal_strconv_uint64pow10)], narrowed := true }
def WordMergeContainsUptoSaid : Prop := wordMergeContainsUptoRow.holds Tryd.pinned (OpenSpec.upto wordMergeContainsSpec)

/-- 'familychecklaw06.WordMorgan', WHERE WHAT IT READS IS OF BULK AT MOST 1048576: true; the input reads as it did. -/
def wordMorganUptoRow : OpenClaim := { program := "ytpmceapjnnkhjaadoor", sum := "c833bf9fe189ef2519a4f5eade2dc5c9659e89ff01889b15967898ad15ad2a80", func := "familycheck/familychecklaw06.WordMorgan", spec := "wordMorgan", inPlace := ["internal/abi.NoEscape"], unfollowed := true, recurses := true, named := ["internal/strconv.uint64pow10", "math/bits.deBruijn32tab", "math/bits.deBruijn64tab"], plainKeys := false, apart := false, laid := [("math/bits.deBruijn32tab", laid_math_bits_deBruijn32tab), ("math/bits.deBruijn64tab", laid_math_bits_deBruijn64tab), ("internal/strconv.uint64pow10", laid_internal_strconv_uint64pow10)], narrowed := true }
def WordMorganUptoSaid : Prop := wordMorganUptoRow.holds Tryd.pinned (OpenSpec.upto wordMorganSpec)

/-- 'familychecklaw06.WordJoinMeans', WHERE WHAT IT READS IS OF BULK AT MOST 1048576: true; the input reads as it did. -/
def wordJoinMeansUptoRow : OpenClaim := { program := "ytpmceapjnnkhjaadoor", sum := "c833bf9fe189ef2519a4f5eade2dc5c9659e89ff01889b15967898ad15ad2a80", func := "familycheck/familychecklaw06.WordJoinMeans", spec := "wordJoinMeans", inPlace := ["internal/abi.NoEscape"], unfollowed := true, recurses := true, named := ["internal/strconv.uint64pow10", "math/bits.deBruijn32tab", "math/bits.deBruijn64tab"], plainKeys := false, apart := false, laid := [("math/bits.deBruijn32tab", laid_math_bits_deBruijn32tab), ("math/bits.deBruijn64tab", laid_math_bits_deBruijn64tab), ("internal/strconv.uint64pow10", laid_internal_strconv_uint64pow10)], narrowed := true }
def WordJoinMeansUptoSaid : Prop := wordJoinMeansUptoRow.holds Tryd.pinned (OpenSpec.upto wordJoinMeansSpec)

/-- 'familychecklaw06.WordImageMeans', WHERE WHAT IT READS IS OF BULK AT MOST 1048576: true; the input reads as it did. -/
def wordImageMeansUptoRow : OpenClaim := { program := "ytpmceapjnnkhjaadoor", sum := "c833bf9fe189ef2519a4f5eade2dc5c9659e89ff01889b15967898ad15ad2a80", func := "familycheck/familychecklaw06.WordImageMeans", spec := "wordImageMeans", inPlace := ["internal/abi.NoEscape"], unfollowed := true, recurses := true, named := ["internal/strconv.uint64pow10", "math/bits.deBruijn32tab", "math/bits.deBruijn64tab"], plainKeys := false, apart := false, laid := [("math/bits.deBruijn32tab", laid_math_bits_deBruijn32tab), ("math/bits.deBruijn64tab", laid_math_bits_deBruijn64tab), ("internal/strconv.uint64pow10", laid_internal_strconv_uint64pow10)], narrowed := true }
def WordImageMeansUptoSaid : Prop := wordImageMeansUptoRow.holds Tryd.pinned (OpenSpec.upto wordImageMeansSpec)

/-- 'familychecklaw06.WordIncludedMeans', WHERE WHAT IT READS IS OF BULK AT MOST 1048576: true; the input reads as it did. -/
def wordIncludedMeansUptoRow : OpenClaim := { program := "ytpmceapjnnkhjaadoor", sum := "c833bf9fe189ef2519a4f5eade2dc5c9659e89ff01889b15967898ad15ad2a80", func := "familycheck/familychecklaw06.WordIncludedMeans", spec := "wordIncludedMeans", inPlace := ["internal/abi.NoEscape"], unfollowed := true, recurses := true, named := ["internal/strconv.uint64pow10", "math/bits.deBruijn32tab", "math/bits.deBruijn64tab"], plainKeys := false, apart := false, laid := [("math/bits.deBruijn32tab", laid_math_bits_deBruijn32tab), ("math/bits.deBruijn64tab", laid_math_bits_deBruijn64tab), ("internal/strconv.uint64pow10", laid_internal_strconv_uint64pow10)], narrowed := true }
def WordIncludedMeansUptoSaid : Prop := wordIncludedMeansUptoRow.holds Tryd.pinned (OpenSpec.upto wordIncludedMeansSpec)

end Rows
end Go.Proofs.YtpmceapjnnkhjaaDoor
