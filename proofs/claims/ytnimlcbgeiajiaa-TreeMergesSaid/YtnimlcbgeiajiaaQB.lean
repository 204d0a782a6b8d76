/-
  Words for memory: slices that read as lists of data, in whatever block, nil or not.
  Maps that number what they have met: the i-th key that was stored has the value i.
  Words for memory that a call makes and writes: which blocks may have turned; rows that are owned; the contracts' form.
  (*builder[uint64]).meet: the walk: the number of what is met, in the list of what has been met.
  What a builder explores: the plain notions, no program in sight; and the loops of a function's text as pieces of their own.
  (*builder[uint64]).build: the innermost loop: a row is filled.
  Rows of rows of rows in memory: what an append and a store make of them.
  makeSlice of a length that the proof knows as a number: a fresh block of zeros.
  (*builder[uint64]).build: the loop over the second children.
  (*builder[uint64]).build: the loop over the first children.
  (*builder[uint64]).build: the rounds.
  (*builder[uint64]).build: the loop over the letters' leaves.
  (*builder[uint64]).build: the loop over the states' acceptance.
  (*builder[uint64]).build: the walk, its loops joined.
-/
import Derived.Test.YtnimlcbgeiajiaaRows
import Derived.WalkSpells
import Derived.WalkLawsBesides
import Derived.Lib.Hide
import Derived.Deep.AppendLies
import Derived.Deep.Draws
import Derived.Deep.LoopGhost
import Derived.Deep.QuietTactic
import Derived.BigQuiet
import Derived.BigCall
import Derived.Maps.AppendAt
import Derived.Laws.MakeOwn
import Derived.Test.YtnimlcbgeiajiaaQA

namespace Go.Proofs.Ytnimlcbgeiajiaa
open Go.RowKit

/-- A slice that reads as the list ds: element k's field j is the cell 'enc d j'; its block lies below B. -/
def Sl {D : Type} (w : World) (B sz : Nat) (enc : D → Nat → Value) (A : Option Addr) (ds : List D) : Prop :=
  ds.length ≤ 9223372036854775807 ∧ (ds ≠ [] → ∃ b off, A = some ⟨b, off, none⟩ ∧ b < B ∧ ∀ k d, ds[k]? = some d → ∀ j, j < sz → w.cell? ⟨b, off + k * sz + j, none⟩ = some (enc d j))

section
variable {D : Type} {w w' : World} {B B' sz : Nat} {enc : D → Nat → Value} {A : Option Addr} {ds : List D}

theorem Sl.nil (h : ds = []) : Sl w B sz enc A ds := by subst h; exact ⟨by simp, fun h => absurd rfl h⟩
theorem Sl.at (h : Sl w B sz enc A ds) {k : Nat} (hk : k < ds.length) :
    ∃ b off d, A = some ⟨b, off, none⟩ ∧ b < B ∧ ds[k]? = some d ∧ ∀ j, j < sz → w.cell? ⟨b, off + k * sz + j, none⟩ = some (enc d j) := by
  obtain ⟨b, off, e, hb, hc⟩ := h.2 (by rintro rfl; simp at hk)
  exact ⟨b, off, ds[k], e, hb, List.getElem?_eq_getElem hk, fun j hj => hc k _ (List.getElem?_eq_getElem hk) j hj⟩
theorem Sl.keep (h : Sl w B sz enc A ds) (hk : ∀ p : Addr, p.block < B → w'.cell? p = w.cell? p) (hB : B ≤ B') : Sl w' B' sz enc A ds :=
  ⟨h.1, fun hn => by
    obtain ⟨b, off, e, hb, hc⟩ := h.2 hn
    exact ⟨b, off, e, by omega, fun k d hd j hj => (hk _ hb).trans (hc k d hd j hj)⟩⟩
theorem Sl.below (h : Sl w B sz enc A ds) (hb : Below B w w') : Sl w' B sz enc A ds := h.keep (fun _ hp => hb.cell hp) (Nat.le_refl _)
theorem Sl.mono (h : Sl w B sz enc A ds) (hB : B ≤ B') : Sl w B' sz enc A ds := h.keep (fun _ _ => rfl) hB
end

def encI (x : Int) (_ : Nat) : Value := .int .i64 x
def encB (x : Bool) (_ : Nat) : Value := .bool x

structure Leaf where
  letter : Int
  to : Int
structure Branch where
  letter : Int
  first : Int
  second : Int
  to : Int
def encL (l : Leaf) : Nat → Value
  | 0 => .int .i64 l.letter
  | _ => .int .i64 l.to
def encBr (b : Branch) : Nat → Value
  | 0 => .int .i64 b.letter
  | 1 => .int .i64 b.first
  | 2 => .int .i64 b.second
  | _ => .int .i64 b.to

/-- A tree automaton. -/
structure TA where
  letters : Int
  states : Int
  accept : List Int
  leaves : List Leaf
  branches : List Branch

/-- A value that reads as an automaton. -/
def IsTA (w : World) (B : Nat) (v : Value) (a : TA) : Prop :=
  ∃ A1 c1 A2 c2 A3 c3, v = .agg #[.int .i64 a.letters, .int .i64 a.states, .slice A1 a.accept.length c1, .slice A2 a.leaves.length c2, .slice A3 a.branches.length c3] ∧
    Sl w B 1 encI A1 a.accept ∧ Sl w B 2 encL A2 a.leaves ∧ Sl w B 4 encBr A3 a.branches

theorem IsTA.keep {w w' : World} {B B' : Nat} {v : Value} {a : TA} (h : IsTA w B v a) (hk : ∀ p : Addr, p.block < B → w'.cell? p = w.cell? p) (hB : B ≤ B') : IsTA w' B' v a := by
  obtain ⟨A1, c1, A2, c2, A3, c3, e, h1, h2, h3⟩ := h
  exact ⟨A1, c1, A2, c2, A3, c3, e, h1.keep hk hB, h2.keep hk hB, h3.keep hk hB⟩
theorem IsTA.below {w w' : World} {B : Nat} {v : Value} {a : TA} (h : IsTA w B v a) (hb : Below B w w') : IsTA w' B v a := h.keep (fun _ hp => hb.cell hp) (Nat.le_refl _)

theorem hide {p : Prop} (h : p) : Hid p := h

/-- A function value is made without a look at memory. -/
theorem run_mf (fn : Fn) (first cap : Array Value) (w : World) : (Instr.makeFunc fn first cap).run Try.prog w = .ok (.func fn first cap) w := rfl

/-! ## calls -/
def callVal (f : Value) (args : Array Value) : Sem Next := do
  let d ← Deferred.ofValue f args
  invoke d.target d.args
theorem execOp_call_tmp (ρ : Operand → Value) (dst : Option Tmp) (t : Tmp) (xs : Array Operand) (ats : Array TypeId) (ty : TypeId) (pos : String) (after : Array Edge) (guard : Option (Nat × Bool)) :
    execOp ρ { dst, op := .call { callee := .value (.tmp t), args := xs, argTypes := ats }, type := ty, pos, after, guard } = callVal (ρ (.tmp t)) (xs.map ρ) := rfl
theorem callVal_func (n : FuncId) (first caps args : Array Value) : callVal (.func (.func n) first caps) args = callFunc n (first ++ args ++ caps) := rfl
theorem run_callFunc_go {P : Program} {f : FuncId} {fn : Func} (hf : P.funcs[f]? = some fn) (hn : (fn.name == "runtime.NumGoroutine") = false) (hb : fn.body.isNone = false) (args : Array Value) (w : World) :
    (callFunc f args).run P w = .ok (.enter f args) w := by
  unfold callFunc
  simp only [Sem.run_bind, run_program, Result.andThen_ok, hf, hn, hb]
  rfl
theorem enter16 (args : Array Value) (w : World) : (callFunc 16 args).run Try.prog w = .ok (.enter 16 args) w := run_callFunc_go Try.func16 (by kernel_rfl) (by kernel_rfl) args w
theorem enter17 (args : Array Value) (w : World) : (callFunc 17 args).run Try.prog w = .ok (.enter 17 args) w := run_callFunc_go Try.func17 (by kernel_rfl) (by kernel_rfl) args w
theorem enter18 (args : Array Value) (w : World) : (callFunc 18 args).run Try.prog w = .ok (.enter 18 args) w := run_callFunc_go Try.func18 (by kernel_rfl) (by kernel_rfl) args w
theorem enter19 (args : Array Value) (w : World) : (callFunc 19 args).run Try.prog w = .ok (.enter 19 args) w := run_callFunc_go Try.func19 (by kernel_rfl) (by kernel_rfl) args w
theorem enter20 (args : Array Value) (w : World) : (callFunc 20 args).run Try.prog w = .ok (.enter 20 args) w := run_callFunc_go Try.func20 (by kernel_rfl) (by kernel_rfl) args w
theorem enter21 (args : Array Value) (w : World) : (callFunc 21 args).run Try.prog w = .ok (.enter 21 args) w := run_callFunc_go Try.func21 (by kernel_rfl) (by kernel_rfl) args w
theorem enter22 (args : Array Value) (w : World) : (callFunc 22 args).run Try.prog w = .ok (.enter 22 args) w := run_callFunc_go Try.func22 (by kernel_rfl) (by kernel_rfl) args w
theorem enter23 (args : Array Value) (w : World) : (callFunc 23 args).run Try.prog w = .ok (.enter 23 args) w := run_callFunc_go Try.func23 (by kernel_rfl) (by kernel_rfl) args w
theorem enter24 (args : Array Value) (w : World) : (callFunc 24 args).run Try.prog w = .ok (.enter 24 args) w := run_callFunc_go Try.func24 (by kernel_rfl) (by kernel_rfl) args w
theorem enter25 (args : Array Value) (w : World) : (callFunc 25 args).run Try.prog w = .ok (.enter 25 args) w := run_callFunc_go Try.func25 (by kernel_rfl) (by kernel_rfl) args w
theorem enter26 (args : Array Value) (w : World) : (callFunc 26 args).run Try.prog w = .ok (.enter 26 args) w := run_callFunc_go Try.func26 (by kernel_rfl) (by kernel_rfl) args w
theorem enter27 (args : Array Value) (w : World) : (callFunc 27 args).run Try.prog w = .ok (.enter 27 args) w := run_callFunc_go Try.func27 (by kernel_rfl) (by kernel_rfl) args w
theorem enter28 (args : Array Value) (w : World) : (callFunc 28 args).run Try.prog w = .ok (.enter 28 args) w := run_callFunc_go Try.func28 (by kernel_rfl) (by kernel_rfl) args w
theorem enter29 (args : Array Value) (w : World) : (callFunc 29 args).run Try.prog w = .ok (.enter 29 args) w := run_callFunc_go Try.func29 (by kernel_rfl) (by kernel_rfl) args w
theorem enter30 (args : Array Value) (w : World) : (callFunc 30 args).run Try.prog w = .ok (.enter 30 args) w := run_callFunc_go Try.func30 (by kernel_rfl) (by kernel_rfl) args w
theorem enter31 (args : Array Value) (w : World) : (callFunc 31 args).run Try.prog w = .ok (.enter 31 args) w := run_callFunc_go Try.func31 (by kernel_rfl) (by kernel_rfl) args w
theorem enter32 (args : Array Value) (w : World) : (callFunc 32 args).run Try.prog w = .ok (.enter 32 args) w := run_callFunc_go Try.func32 (by kernel_rfl) (by kernel_rfl) args w
theorem enter33 (args : Array Value) (w : World) : (callFunc 33 args).run Try.prog w = .ok (.enter 33 args) w := run_callFunc_go Try.func33 (by kernel_rfl) (by kernel_rfl) args w
theorem enter34 (args : Array Value) (w : World) : (callFunc 34 args).run Try.prog w = .ok (.enter 34 args) w := run_callFunc_go Try.func34 (by kernel_rfl) (by kernel_rfl) args w
theorem enter35 (args : Array Value) (w : World) : (callFunc 35 args).run Try.prog w = .ok (.enter 35 args) w := run_callFunc_go Try.func35 (by kernel_rfl) (by kernel_rfl) args w
theorem enter36 (args : Array Value) (w : World) : (callFunc 36 args).run Try.prog w = .ok (.enter 36 args) w := run_callFunc_go Try.func36 (by kernel_rfl) (by kernel_rfl) args w
theorem enter37 (args : Array Value) (w : World) : (callFunc 37 args).run Try.prog w = .ok (.enter 37 args) w := run_callFunc_go Try.func37 (by kernel_rfl) (by kernel_rfl) args w
theorem enter38 (args : Array Value) (w : World) : (callFunc 38 args).run Try.prog w = .ok (.enter 38 args) w := run_callFunc_go Try.func38 (by kernel_rfl) (by kernel_rfl) args w
theorem enter39 (args : Array Value) (w : World) : (callFunc 39 args).run Try.prog w = .ok (.enter 39 args) w := run_callFunc_go Try.func39 (by kernel_rfl) (by kernel_rfl) args w
theorem enter40 (args : Array Value) (w : World) : (callFunc 40 args).run Try.prog w = .ok (.enter 40 args) w := run_callFunc_go Try.func40 (by kernel_rfl) (by kernel_rfl) args w
theorem enter41 (args : Array Value) (w : World) : (callFunc 41 args).run Try.prog w = .ok (.enter 41 args) w := run_callFunc_go Try.func41 (by kernel_rfl) (by kernel_rfl) args w
theorem enter42 (args : Array Value) (w : World) : (callFunc 42 args).run Try.prog w = .ok (.enter 42 args) w := run_callFunc_go Try.func42 (by kernel_rfl) (by kernel_rfl) args w
theorem enter43 (args : Array Value) (w : World) : (callFunc 43 args).run Try.prog w = .ok (.enter 43 args) w := run_callFunc_go Try.func43 (by kernel_rfl) (by kernel_rfl) args w
theorem enter44 (args : Array Value) (w : World) : (callFunc 44 args).run Try.prog w = .ok (.enter 44 args) w := run_callFunc_go Try.func44 (by kernel_rfl) (by kernel_rfl) args w
theorem enter45 (args : Array Value) (w : World) : (callFunc 45 args).run Try.prog w = .ok (.enter 45 args) w := run_callFunc_go Try.func45 (by kernel_rfl) (by kernel_rfl) args w
theorem enter46 (args : Array Value) (w : World) : (callFunc 46 args).run Try.prog w = .ok (.enter 46 args) w := run_callFunc_go Try.func46 (by kernel_rfl) (by kernel_rfl) args w
theorem enter47 (args : Array Value) (w : World) : (callFunc 47 args).run Try.prog w = .ok (.enter 47 args) w := run_callFunc_go Try.func47 (by kernel_rfl) (by kernel_rfl) args w
theorem enter48 (args : Array Value) (w : World) : (callFunc 48 args).run Try.prog w = .ok (.enter 48 args) w := run_callFunc_go Try.func48 (by kernel_rfl) (by kernel_rfl) args w
theorem enter49 (args : Array Value) (w : World) : (callFunc 49 args).run Try.prog w = .ok (.enter 49 args) w := run_callFunc_go Try.func49 (by kernel_rfl) (by kernel_rfl) args w
theorem enter50 (args : Array Value) (w : World) : (callFunc 50 args).run Try.prog w = .ok (.enter 50 args) w := run_callFunc_go Try.func50 (by kernel_rfl) (by kernel_rfl) args w
theorem enter51 (args : Array Value) (w : World) : (callFunc 51 args).run Try.prog w = .ok (.enter 51 args) w := run_callFunc_go Try.func51 (by kernel_rfl) (by kernel_rfl) args w
theorem enter52 (args : Array Value) (w : World) : (callFunc 52 args).run Try.prog w = .ok (.enter 52 args) w := run_callFunc_go Try.func52 (by kernel_rfl) (by kernel_rfl) args w
theorem enter53 (args : Array Value) (w : World) : (callFunc 53 args).run Try.prog w = .ok (.enter 53 args) w := run_callFunc_go Try.func53 (by kernel_rfl) (by kernel_rfl) args w
theorem enter54 (args : Array Value) (w : World) : (callFunc 54 args).run Try.prog w = .ok (.enter 54 args) w := run_callFunc_go Try.func54 (by kernel_rfl) (by kernel_rfl) args w
theorem enter55 (args : Array Value) (w : World) : (callFunc 55 args).run Try.prog w = .ok (.enter 55 args) w := run_callFunc_go Try.func55 (by kernel_rfl) (by kernel_rfl) args w
theorem enter56 (args : Array Value) (w : World) : (callFunc 56 args).run Try.prog w = .ok (.enter 56 args) w := run_callFunc_go Try.func56 (by kernel_rfl) (by kernel_rfl) args w
theorem enter57 (args : Array Value) (w : World) : (callFunc 57 args).run Try.prog w = .ok (.enter 57 args) w := run_callFunc_go Try.func57 (by kernel_rfl) (by kernel_rfl) args w
theorem enter58 (args : Array Value) (w : World) : (callFunc 58 args).run Try.prog w = .ok (.enter 58 args) w := run_callFunc_go Try.func58 (by kernel_rfl) (by kernel_rfl) args w
theorem enter59 (args : Array Value) (w : World) : (callFunc 59 args).run Try.prog w = .ok (.enter 59 args) w := run_callFunc_go Try.func59 (by kernel_rfl) (by kernel_rfl) args w
theorem enter60 (args : Array Value) (w : World) : (callFunc 60 args).run Try.prog w = .ok (.enter 60 args) w := run_callFunc_go Try.func60 (by kernel_rfl) (by kernel_rfl) args w
theorem enter61 (args : Array Value) (w : World) : (callFunc 61 args).run Try.prog w = .ok (.enter 61 args) w := run_callFunc_go Try.func61 (by kernel_rfl) (by kernel_rfl) args w
theorem enter62 (args : Array Value) (w : World) : (callFunc 62 args).run Try.prog w = .ok (.enter 62 args) w := run_callFunc_go Try.func62 (by kernel_rfl) (by kernel_rfl) args w
theorem enter63 (args : Array Value) (w : World) : (callFunc 63 args).run Try.prog w = .ok (.enter 63 args) w := run_callFunc_go Try.func63 (by kernel_rfl) (by kernel_rfl) args w
theorem enter64 (args : Array Value) (w : World) : (callFunc 64 args).run Try.prog w = .ok (.enter 64 args) w := run_callFunc_go Try.func64 (by kernel_rfl) (by kernel_rfl) args w
theorem enter65 (args : Array Value) (w : World) : (callFunc 65 args).run Try.prog w = .ok (.enter 65 args) w := run_callFunc_go Try.func65 (by kernel_rfl) (by kernel_rfl) args w
theorem enter66 (args : Array Value) (w : World) : (callFunc 66 args).run Try.prog w = .ok (.enter 66 args) w := run_callFunc_go Try.func66 (by kernel_rfl) (by kernel_rfl) args w
theorem enter67 (args : Array Value) (w : World) : (callFunc 67 args).run Try.prog w = .ok (.enter 67 args) w := run_callFunc_go Try.func67 (by kernel_rfl) (by kernel_rfl) args w
theorem enter68 (args : Array Value) (w : World) : (callFunc 68 args).run Try.prog w = .ok (.enter 68 args) w := run_callFunc_go Try.func68 (by kernel_rfl) (by kernel_rfl) args w
theorem enter69 (args : Array Value) (w : World) : (callFunc 69 args).run Try.prog w = .ok (.enter 69 args) w := run_callFunc_go Try.func69 (by kernel_rfl) (by kernel_rfl) args w
theorem enter70 (args : Array Value) (w : World) : (callFunc 70 args).run Try.prog w = .ok (.enter 70 args) w := run_callFunc_go Try.func70 (by kernel_rfl) (by kernel_rfl) args w
theorem enter71 (args : Array Value) (w : World) : (callFunc 71 args).run Try.prog w = .ok (.enter 71 args) w := run_callFunc_go Try.func71 (by kernel_rfl) (by kernel_rfl) args w
theorem enter72 (args : Array Value) (w : World) : (callFunc 72 args).run Try.prog w = .ok (.enter 72 args) w := run_callFunc_go Try.func72 (by kernel_rfl) (by kernel_rfl) args w
theorem enter73 (args : Array Value) (w : World) : (callFunc 73 args).run Try.prog w = .ok (.enter 73 args) w := run_callFunc_go Try.func73 (by kernel_rfl) (by kernel_rfl) args w
theorem enter74 (args : Array Value) (w : World) : (callFunc 74 args).run Try.prog w = .ok (.enter 74 args) w := run_callFunc_go Try.func74 (by kernel_rfl) (by kernel_rfl) args w
theorem enter75 (args : Array Value) (w : World) : (callFunc 75 args).run Try.prog w = .ok (.enter 75 args) w := run_callFunc_go Try.func75 (by kernel_rfl) (by kernel_rfl) args w
theorem enter76 (args : Array Value) (w : World) : (callFunc 76 args).run Try.prog w = .ok (.enter 76 args) w := run_callFunc_go Try.func76 (by kernel_rfl) (by kernel_rfl) args w
theorem enter77 (args : Array Value) (w : World) : (callFunc 77 args).run Try.prog w = .ok (.enter 77 args) w := run_callFunc_go Try.func77 (by kernel_rfl) (by kernel_rfl) args w
theorem enter78 (args : Array Value) (w : World) : (callFunc 78 args).run Try.prog w = .ok (.enter 78 args) w := run_callFunc_go Try.func78 (by kernel_rfl) (by kernel_rfl) args w
theorem enter79 (args : Array Value) (w : World) : (callFunc 79 args).run Try.prog w = .ok (.enter 79 args) w := run_callFunc_go Try.func79 (by kernel_rfl) (by kernel_rfl) args w
theorem enter80 (args : Array Value) (w : World) : (callFunc 80 args).run Try.prog w = .ok (.enter 80 args) w := run_callFunc_go Try.func80 (by kernel_rfl) (by kernel_rfl) args w
theorem enter81 (args : Array Value) (w : World) : (callFunc 81 args).run Try.prog w = .ok (.enter 81 args) w := run_callFunc_go Try.func81 (by kernel_rfl) (by kernel_rfl) args w
theorem enter82 (args : Array Value) (w : World) : (callFunc 82 args).run Try.prog w = .ok (.enter 82 args) w := run_callFunc_go Try.func82 (by kernel_rfl) (by kernel_rfl) args w
theorem enter83 (args : Array Value) (w : World) : (callFunc 83 args).run Try.prog w = .ok (.enter 83 args) w := run_callFunc_go Try.func83 (by kernel_rfl) (by kernel_rfl) args w
theorem enter84 (args : Array Value) (w : World) : (callFunc 84 args).run Try.prog w = .ok (.enter 84 args) w := run_callFunc_go Try.func84 (by kernel_rfl) (by kernel_rfl) args w
theorem enter85 (args : Array Value) (w : World) : (callFunc 85 args).run Try.prog w = .ok (.enter 85 args) w := run_callFunc_go Try.func85 (by kernel_rfl) (by kernel_rfl) args w
theorem enter86 (args : Array Value) (w : World) : (callFunc 86 args).run Try.prog w = .ok (.enter 86 args) w := run_callFunc_go Try.func86 (by kernel_rfl) (by kernel_rfl) args w
theorem enter87 (args : Array Value) (w : World) : (callFunc 87 args).run Try.prog w = .ok (.enter 87 args) w := run_callFunc_go Try.func87 (by kernel_rfl) (by kernel_rfl) args w
theorem enter88 (args : Array Value) (w : World) : (callFunc 88 args).run Try.prog w = .ok (.enter 88 args) w := run_callFunc_go Try.func88 (by kernel_rfl) (by kernel_rfl) args w
theorem enter89 (args : Array Value) (w : World) : (callFunc 89 args).run Try.prog w = .ok (.enter 89 args) w := run_callFunc_go Try.func89 (by kernel_rfl) (by kernel_rfl) args w
theorem enter90 (args : Array Value) (w : World) : (callFunc 90 args).run Try.prog w = .ok (.enter 90 args) w := run_callFunc_go Try.func90 (by kernel_rfl) (by kernel_rfl) args w
theorem enter91 (args : Array Value) (w : World) : (callFunc 91 args).run Try.prog w = .ok (.enter 91 args) w := run_callFunc_go Try.func91 (by kernel_rfl) (by kernel_rfl) args w
theorem enter92 (args : Array Value) (w : World) : (callFunc 92 args).run Try.prog w = .ok (.enter 92 args) w := run_callFunc_go Try.func92 (by kernel_rfl) (by kernel_rfl) args w
theorem enter93 (args : Array Value) (w : World) : (callFunc 93 args).run Try.prog w = .ok (.enter 93 args) w := run_callFunc_go Try.func93 (by kernel_rfl) (by kernel_rfl) args w
theorem enter94 (args : Array Value) (w : World) : (callFunc 94 args).run Try.prog w = .ok (.enter 94 args) w := run_callFunc_go Try.func94 (by kernel_rfl) (by kernel_rfl) args w
theorem enter95 (args : Array Value) (w : World) : (callFunc 95 args).run Try.prog w = .ok (.enter 95 args) w := run_callFunc_go Try.func95 (by kernel_rfl) (by kernel_rfl) args w
theorem enter96 (args : Array Value) (w : World) : (callFunc 96 args).run Try.prog w = .ok (.enter 96 args) w := run_callFunc_go Try.func96 (by kernel_rfl) (by kernel_rfl) args w
theorem enter97 (args : Array Value) (w : World) : (callFunc 97 args).run Try.prog w = .ok (.enter 97 args) w := run_callFunc_go Try.func97 (by kernel_rfl) (by kernel_rfl) args w
theorem enter98 (args : Array Value) (w : World) : (callFunc 98 args).run Try.prog w = .ok (.enter 98 args) w := run_callFunc_go Try.func98 (by kernel_rfl) (by kernel_rfl) args w
theorem enter99 (args : Array Value) (w : World) : (callFunc 99 args).run Try.prog w = .ok (.enter 99 args) w := run_callFunc_go Try.func99 (by kernel_rfl) (by kernel_rfl) args w
theorem enter100 (args : Array Value) (w : World) : (callFunc 100 args).run Try.prog w = .ok (.enter 100 args) w := run_callFunc_go Try.func100 (by kernel_rfl) (by kernel_rfl) args w
theorem enter101 (args : Array Value) (w : World) : (callFunc 101 args).run Try.prog w = .ok (.enter 101 args) w := run_callFunc_go Try.func101 (by kernel_rfl) (by kernel_rfl) args w
theorem enter102 (args : Array Value) (w : World) : (callFunc 102 args).run Try.prog w = .ok (.enter 102 args) w := run_callFunc_go Try.func102 (by kernel_rfl) (by kernel_rfl) args w
theorem enter103 (args : Array Value) (w : World) : (callFunc 103 args).run Try.prog w = .ok (.enter 103 args) w := run_callFunc_go Try.func103 (by kernel_rfl) (by kernel_rfl) args w
theorem enter104 (args : Array Value) (w : World) : (callFunc 104 args).run Try.prog w = .ok (.enter 104 args) w := run_callFunc_go Try.func104 (by kernel_rfl) (by kernel_rfl) args w
theorem enter105 (args : Array Value) (w : World) : (callFunc 105 args).run Try.prog w = .ok (.enter 105 args) w := run_callFunc_go Try.func105 (by kernel_rfl) (by kernel_rfl) args w
theorem enter106 (args : Array Value) (w : World) : (callFunc 106 args).run Try.prog w = .ok (.enter 106 args) w := run_callFunc_go Try.func106 (by kernel_rfl) (by kernel_rfl) args w
theorem enter107 (args : Array Value) (w : World) : (callFunc 107 args).run Try.prog w = .ok (.enter 107 args) w := run_callFunc_go Try.func107 (by kernel_rfl) (by kernel_rfl) args w
theorem enter108 (args : Array Value) (w : World) : (callFunc 108 args).run Try.prog w = .ok (.enter 108 args) w := run_callFunc_go Try.func108 (by kernel_rfl) (by kernel_rfl) args w
theorem enter109 (args : Array Value) (w : World) : (callFunc 109 args).run Try.prog w = .ok (.enter 109 args) w := run_callFunc_go Try.func109 (by kernel_rfl) (by kernel_rfl) args w
theorem enter110 (args : Array Value) (w : World) : (callFunc 110 args).run Try.prog w = .ok (.enter 110 args) w := run_callFunc_go Try.func110 (by kernel_rfl) (by kernel_rfl) args w
theorem enter111 (args : Array Value) (w : World) : (callFunc 111 args).run Try.prog w = .ok (.enter 111 args) w := run_callFunc_go Try.func111 (by kernel_rfl) (by kernel_rfl) args w
theorem enter112 (args : Array Value) (w : World) : (callFunc 112 args).run Try.prog w = .ok (.enter 112 args) w := run_callFunc_go Try.func112 (by kernel_rfl) (by kernel_rfl) args w
theorem enter113 (args : Array Value) (w : World) : (callFunc 113 args).run Try.prog w = .ok (.enter 113 args) w := run_callFunc_go Try.func113 (by kernel_rfl) (by kernel_rfl) args w
theorem enter114 (args : Array Value) (w : World) : (callFunc 114 args).run Try.prog w = .ok (.enter 114 args) w := run_callFunc_go Try.func114 (by kernel_rfl) (by kernel_rfl) args w
theorem enter115 (args : Array Value) (w : World) : (callFunc 115 args).run Try.prog w = .ok (.enter 115 args) w := run_callFunc_go Try.func115 (by kernel_rfl) (by kernel_rfl) args w

attribute [go_sem ↓] execOp_call_tmp enter16 enter17 enter18 enter19 enter20 enter21 enter22 enter23 enter24 enter25 enter26 enter27 enter28 enter29 enter30 enter31 enter32 enter33 enter34 enter35 enter36 enter37 enter38 enter39 enter40 enter41 enter42 enter43 enter44 enter45 enter46 enter47 enter48 enter49 enter50 enter51 enter52 enter53 enter54 enter55 enter56 enter57 enter58 enter59 enter60 enter61 enter62 enter63 enter64 enter65 enter66 enter67 enter68 enter69 enter70 enter71 enter72 enter73 enter74 enter75 enter76 enter77 enter78 enter79 enter80 enter81 enter82 enter83 enter84 enter85 enter86 enter87 enter88 enter89 enter90 enter91 enter92 enter93 enter94 enter95 enter96 enter97 enter98 enter99 enter100 enter101 enter102 enter103 enter104 enter105 enter106 enter107 enter108 enter109 enter110 enter111 enter112 enter113 enter114 enter115
attribute [go_sem] callVal_func
end Go.Proofs.Ytnimlcbgeiajiaa

namespace Go.Proofs.Ytnimlcbgeiajiaa
open Go.RowKit

/-- Block g is a map that has the keys ks, numbered in their order. -/
def IdxMap (w : World) (g : Nat) (ks : List Value) : Prop :=
  ∃ es clock, w.heap[g]? = some (.map es clock) ∧ es.toList.map (·.key) = ks ∧ es.toList.map (·.val) = (List.range ks.length).map fun (i : Nat) => Value.int .i64 (i : Int)

theorem IdxMap.keep {w w' : World} {g : Nat} {ks : List Value} (h : IdxMap w g ks) (hb : w'.heap[g]? = w.heap[g]?) : IdxMap w' g ks := by
  obtain ⟨es, clock, h1, h2⟩ := h
  exact ⟨es, clock, by rw [hb]; exact h1, h2⟩
theorem IdxMap.lt {w : World} {g : Nat} {ks : List Value} (h : IdxMap w g ks) : g < w.heap.size := by
  obtain ⟨es, clock, h1, h2⟩ := h
  exact (Array.getElem?_eq_some_iff.1 h1).1
theorem IdxMap.made (w : World) : IdxMap (w.alloc (.map #[] 0)) w.heap.size [] := ⟨#[], 0, heap_alloc_new w _, rfl, rfl⟩

/-- Keys of a type: values of the form 'enc s'. -/
structure KeyOK {S : Type} [DecidableEq S] (P : Program) (K : TypeId) (enc : S → Value) : Prop where
  check : ∀ em w s, (Instr.checkKey em 10000 K (enc s)).run P w = .ok () w
  find : ∀ w s (es : List MapEntry) (l : List S), es.map (·.key) = l.map enc →
    (Instr.findKey K (enc s) es).run P w = .ok (if s ∈ l then some (l.idxOf s, ((es[l.idxOf s]?).map (·.val)).getD .nilFunc) else none) w

section
variable {S : Type} [DecidableEq S] {P : Program} {K : TypeId}

theorem findNow_int (q : IntKind) (f : S → Int) (hf : ∀ a b, f a = f b → a = b) (s : S) (es : List MapEntry) : ∀ (l : List S) (i : Nat), es.map (·.key) = l.map (fun s => Value.int q (f s)) →
    Instr.findNow (.int q) (.int q (f s)) es i = some (if s ∈ l then some (i + l.idxOf s, ((es[l.idxOf s]?).map (·.val)).getD .nilFunc) else none) := by
  induction es with
  | nil =>
    intro l i h
    have : l = [] := by cases l <;> simp_all
    subst this
    simp [Instr.findNow]
  | cons e es ih =>
    intro l i h
    cases l with
    | nil => simp at h
    | cons t l =>
      simp only [List.map_cons, List.cons.injEq] at h
      obtain ⟨h1, h2⟩ := h
      unfold Instr.findNow
      rw [h1]
      simp only [Instr.sameNow, if_true]
      by_cases hst : s = t
      · subst hst
        simp
      · have hne : (f s == f t) = false := by simpa using fun e => hst (hf _ _ e)
        rw [hne]
        dsimp only
        rw [ih l (i + 1) h2]
        have hidx : (t :: l).idxOf s = l.idxOf s + 1 := by
          rw [List.idxOf_cons]
          have : (t == s) = false := by simpa using fun e => hst e.symm
          rw [this]; rfl
        by_cases hsl : s ∈ l
        · simp only [hsl, hidx, List.mem_cons, or_true, if_true, List.getElem?_cons_succ, Option.some.injEq, Prod.mk.injEq, and_true]; omega
        · simp [hsl, hst]

theorem keyOK_int (q : IntKind) (hK : P.underlying K = some (.int q)) (f : S → Int) (hf : ∀ a b, f a = f b → a = b) : KeyOK P K (fun s => Value.int q (f s)) where
  check := fun em w s => by
    rw [show (10000 : Nat) = 9999 + 1 from rfl]
    unfold Instr.checkKey
    simp [run_underlying hK]
  find := fun w s es l h => by
    unfold Instr.findKey
    simp only [Sem.run_bind, run_underlying hK, Result.andThen_ok]
    rw [findNow_int q f hf s es l 0 h]
    simp

theorem bytes_beq (a b : ByteArray) : (a == b) = (a.data == b.data) := rfl
theorem bytes_beq_self (a : ByteArray) : (a == a) = true := by rw [bytes_beq]; simp
theorem bytes_beq_ne {a b : ByteArray} (h : a ≠ b) : (a == b) = false := by rw [bytes_beq]; simp; intro e; exact h (ByteArray.ext e)

theorem findNow_string (f : S → ByteArray) (hf : ∀ a b, f a = f b → a = b) (s : S) (es : List MapEntry) : ∀ (l : List S) (i : Nat), es.map (·.key) = l.map (fun s => Value.string (f s)) →
    Instr.findNow .string (.string (f s)) es i = some (if s ∈ l then some (i + l.idxOf s, ((es[l.idxOf s]?).map (·.val)).getD .nilFunc) else none) := by
  induction es with
  | nil =>
    intro l i h
    have : l = [] := by cases l <;> simp_all
    subst this
    simp [Instr.findNow]
  | cons e es ih =>
    intro l i h
    cases l with
    | nil => simp at h
    | cons t l =>
      simp only [List.map_cons, List.cons.injEq] at h
      obtain ⟨h1, h2⟩ := h
      unfold Instr.findNow
      rw [h1]
      simp only [Instr.sameNow]
      by_cases hst : s = t
      · subst hst
        have hb : (f s == f s) = true := bytes_beq_self _
        rw [hb]
        simp
      · have hne : (f s == f t) = false := bytes_beq_ne fun e => hst (hf _ _ e)
        rw [hne]
        dsimp only
        rw [ih l (i + 1) h2]
        have hidx : (t :: l).idxOf s = l.idxOf s + 1 := by
          rw [List.idxOf_cons]
          have : (t == s) = false := by simpa using fun e => hst e.symm
          rw [this]; rfl
        by_cases hsl : s ∈ l
        · simp only [hsl, hidx, List.mem_cons, or_true, if_true, List.getElem?_cons_succ, Option.some.injEq, Prod.mk.injEq, and_true]; omega
        · simp [hsl, hst]

theorem keyOK_string (hK : P.underlying K = some .string) (f : S → ByteArray) (hf : ∀ a b, f a = f b → a = b) : KeyOK P K (fun s => Value.string (f s)) where
  check := fun em w s => by
    rw [show (10000 : Nat) = 9999 + 1 from rfl]
    unfold Instr.checkKey
    simp [run_underlying hK]
  find := fun w s es l h => by
    unfold Instr.findKey
    simp only [Sem.run_bind, run_underlying hK, Result.andThen_ok]
    rw [findNow_string f hf s es l 0 h]
    simp

theorem idx_val {es : Array MapEntry} {n i : Nat} (h : es.toList.map (·.val) = (List.range n).map fun (i : Nat) => Value.int .i64 (i : Int)) (hi : i < n) : ((es.toList[i]?).map (·.val)).getD .nilFunc = .int .i64 (i : Int) := by
  have : (es.toList.map (·.val))[i]? = some (Value.int .i64 (i : Int)) := by rw [h]; simp [hi]
  rw [List.getElem?_map] at this
  rw [this]; rfl

/-- A look-up with ok. -/
theorem run_idx_lookup {enc : S → Value} (hk : KeyOK P K enc) {T E : TypeId} (hT : P.underlying T = some (.map K E)) (hE : ∀ w, (zeroValue E).run P w = .ok (.int .i64 0) w) {w : World} {g : Nat} {l : List S}
    (h : IdxMap w g (l.map enc)) (s : S) :
    (Instr.lookup T (.map (some g)) (enc s) true).run P w = .ok (.tuple #[.int .i64 (if s ∈ l then (l.idxOf s : Int) else 0), .bool (decide (s ∈ l))]) w := by
  obtain ⟨es, clock, h1, h2, h3⟩ := h
  have hg : (getObj g).run P w = .ok (.map es clock) w := by simp [getObj, Sem.run, h1]
  have hf := hk.find w s es.toList l h2
  unfold Instr.lookup
  simp only [Sem.run_bind, run_underlying hT, Result.andThen_ok, hg, Sem.run_pure, hk.check, hf]
  by_cases hs : s ∈ l
  · simp only [hs, if_true, decide_true]
    rw [idx_val h3 (by rw [List.length_map]; exact List.idxOf_lt_length_of_mem hs)]
    rfl
  · simp only [hs, if_false, Result.andThen_ok, Sem.run_bind, hE, Sem.run_pure, decide_false, if_true]

/-- A new key is stored. -/
theorem run_idx_store {enc : S → Value} (hk : KeyOK P K enc) {T E : TypeId} (hT : P.underlying T = some (.map K E)) {w : World} {g : Nat} {l : List S}
    (h : IdxMap w g (l.map enc)) (s : S) (hs : s ∉ l) :
    ∃ w', (Instr.mapUpdate T (.map (some g)) (enc s) (.int .i64 (l.length : Int))).run P w = .ok () w' ∧ IdxMap w' g ((l ++ [s]).map enc) ∧ w.grownBy w' (some g) ∧ w'.heap.size = w.heap.size := by
  obtain ⟨es, clock, h1, h2, h3⟩ := h
  have hg : (getObj g).run P w = .ok (.map es clock) w := by simp [getObj, Sem.run, h1]
  have hf := hk.find w s es.toList l h2
  rw [if_neg hs] at hf
  have hlt : g < w.heap.size := (Array.getElem?_eq_some_iff.1 h1).1
  have hset : ∀ o : Obj, (setObj g o).run P w = .ok () { w with heap := w.heap.setIfInBounds g o } := fun o => by
    simp [setObj, Sem.run, h1]
  refine ⟨{ w with heap := w.heap.setIfInBounds g (.map (es.push { key := enc s, val := .int .i64 (l.length : Int), born := clock }) (clock + 1)) }, ?_,
    ⟨es.push { key := enc s, val := .int .i64 (l.length : Int), born := clock }, clock + 1, ?_, ?_, ?_⟩, ⟨rfl, rfl, rfl, by simp, fun k hk hne => ?_⟩, by simp⟩
  · unfold Instr.mapUpdate
    simp only [Sem.run_bind, run_underlying hT, Result.andThen_ok, hg, hk.check, hf, hset]
  · simp [hlt]
  · simp [h2]
  · simp only [Array.toList_push, List.map_append, h3, List.map_cons, List.map_nil, List.length_append, List.length_cons, List.length_nil, List.length_map]
    rw [List.range_succ]
    simp
  · have : k ≠ g := fun e => hne (by rw [e])
    simp [Array.getElem?_setIfInBounds_ne (fun e => this e.symm)]
end
end Go.Proofs.Ytnimlcbgeiajiaa

namespace Go.Proofs.Ytnimlcbgeiajiaa
open Go.RowKit

/-- The call returns, and what it returns is as V says. -/
def Ret (V : Value → World → Prop) : Ending → World → Prop
  | .returned v, w => V v w
  | _, _ => False
theorem Calls.ret {P : Program} {f : FuncId} {args : Array Value} {w : World} {V : Value → World → Prop} {K : Ending → World → Prop} (h : Calls P f args w (Ret V)) (hK : ∀ v w', V v w' → K (.returned v) w') : Calls P f args w K :=
  h.mono fun e w' hr => by
    cases e with
    | returned v => exact hK v w' hr
    | panicked c => exact hr.elim
    | outgrown => exact hr.elim
theorem Calls.ret_eq {P : Program} {f : FuncId} {args : Array Value} {w : World} {V : Value → World → Prop} {v : Value} (h : Calls P f args w fun e w' => e = .returned v ∧ V v w') : Calls P f args w (Ret V) :=
  h.mono fun e w' ⟨he, hv⟩ => by subst he; exact hv

/-- All blocks but those of X are as they were. -/
structure Kept (w w' : World) (X : Nat → Prop) : Prop where
  os : w'.os = w.os
  tape : w'.tape = w.tape
  output : w'.output = w.output
  size : w.heap.size ≤ w'.heap.size
  block : ∀ k, k < w.heap.size → ¬ X k → w'.heap[k]? = w.heap[k]?

section
variable {w w' w'' : World} {X Y : Nat → Prop}
theorem Kept.refl (w : World) (X : Nat → Prop) : Kept w w X := ⟨rfl, rfl, rfl, Nat.le_refl _, fun _ _ _ => rfl⟩
theorem Kept.trans (h : Kept w w' X) (k : Kept w' w'' Y) (hY : ∀ b, b < w.heap.size → Y b → X b) : Kept w w'' X :=
  ⟨k.os.trans h.os, k.tape.trans h.tape, k.output.trans h.output, Nat.le_trans h.size k.size,
    fun b hb hn => (k.block b (Nat.lt_of_lt_of_le hb h.size) fun hy => hn (hY b hb hy)).trans (h.block b hb hn)⟩
theorem Kept.mono (h : Kept w w' X) (hX : ∀ b, b < w.heap.size → X b → Y b) : Kept w w' Y := ⟨h.os, h.tape, h.output, h.size, fun b hb hn => h.block b hb fun hx => hn (hX b hb hx)⟩
theorem Kept.of_below (h : Below w.heap.size w w') (X : Nat → Prop) : Kept w w' X := ⟨h.os, h.tape, h.output, h.size, fun b hb _ => h.block b hb⟩
theorem Kept.of_grown {row : Option Nat} (h : w.grownBy w' row) : Kept w w' (fun b => row = some b) := ⟨h.os, h.tape, h.output, h.size, fun b hb hn => h.block b hb fun e => hn e.symm⟩
theorem Kept.drew (h : Kept w w' X) : Kept w w'.drew X := ⟨h.os, h.tape, h.output, h.size, h.block⟩
theorem Kept.drewN (h : Kept w w' X) (n : Nat) : Kept w (w'.drewN n) X := ⟨h.os, h.tape, h.output, h.size, h.block⟩
theorem Kept.alloc (h : Kept w w' X) (o : Obj) : Kept w (w'.alloc o) X :=
  ⟨h.os, h.tape, h.output, Nat.le_trans h.size (by simp), fun b hb hn => (Below.heap_alloc _ _ _ (Nat.lt_of_lt_of_le hb h.size)).trans (h.block b hb hn)⟩
theorem Kept.setCell (h : Kept w w' X) {p : Addr} (hp : p.block < w.heap.size → X p.block) (u : Value) : Kept w (w'.setCell p u) X :=
  ⟨h.os, h.tape, h.output, by simpa [World.setCell] using h.size, fun b hb hn => (Below.heap_setCell _ _ _ _ (fun e => hn (by subst e; exact hp hb))).trans (h.block b hb hn)⟩
theorem Kept.below (h : Kept w w' X) {B : Nat} (hB : B ≤ w.heap.size) (hX : ∀ b, b < B → ¬ X b) : Below B w w' := ⟨h.os, h.tape, h.output, h.size, fun b hb => h.block b (by omega) (hX b hb)⟩
theorem Kept.below' (h : Kept w w' X) (hX : ∀ b, b < w.heap.size → ¬ X b) : Below w.heap.size w w' := h.below (Nat.le_refl _) hX
theorem Kept.same (h : Kept w w' X) {o : Obj} {b : Nat} (hb : w.heap[b]? = some o) (hn : ¬ X b) : w'.heap[b]? = some o := by
  rw [h.block b (Array.getElem?_eq_some_iff.1 hb).1 hn]; exact hb
theorem Kept.cell (h : Kept w w' X) {p : Addr} (hb : p.block < w.heap.size) (hn : ¬ X p.block) : w'.cell? p = w.cell? p := World.cell?_of_block (h.block p.block hb hn)
theorem Kept.ownsRow (h : Kept w w' X) {base n size : Nat} {e : TypeId} {v : Value} {xs : List Value} (ho : w.ownsRow base e size v n xs) (hn : ∀ g, v.ownBlock = some g → ¬ X g) : w'.ownsRow base e size v n xs := by
  refine ⟨ho.1, ?_⟩
  rcases ho.2 with hx | ⟨g, cap, cur, rfl, hb, hg, rest⟩
  · exact .inl hx
  · exact .inr ⟨g, cap, cur, rfl, hb, h.same hg (hn g rfl), rest⟩
end

/-- Block g is just the cells cs of type t. -/
def Blk (w : World) (g : Nat) (t : TypeId) (cs : Array Value) : Prop := w.heap[g]? = some (.cells cs t (0, 0))
section
variable {w w' : World} {g : Nat} {t : TypeId} {cs : Array Value} {X : Nat → Prop}
theorem Blk.lt (h : Blk w g t cs) : g < w.heap.size := (Array.getElem?_eq_some_iff.1 h).1
theorem Blk.cell (h : Blk w g t cs) (i : Nat) : w.cell? ⟨g, i, none⟩ = cs[i]? := cell_of_row w g i cs t (0, 0) h
theorem Blk.frozen (h : Blk w g t cs) (i : Nat) : w.frozen? ⟨g, i, none⟩ = false := by
  unfold Blk at h
  simp [World.frozen?, h]
theorem Blk.new (w : World) (t : TypeId) (cs : Array Value) : Blk (w.alloc (.cells cs t)) w.heap.size t cs := heap_alloc_new w _
theorem Blk.set_ (h : Blk w g t cs) (i : Nat) (u : Value) : Blk (w.setCell ⟨g, i, none⟩ u) g t (cs.setIfInBounds i u) := by
  unfold Blk at h ⊢
  simp [World.setCell, Array.getElem?_modify, h]
theorem Blk.kept (h : Blk w g t cs) (hk : Kept w w' X) (hn : ¬ X g) : Blk w' g t cs := hk.same h hn
theorem Blk.ne_ {g' : Nat} {t' : TypeId} {cs' : Array Value} (h : Blk w g t cs) (h' : Blk w g' t' cs') (hne : t ≠ t') : g ≠ g' := by
  rintro rfl
  unfold Blk at h h'
  rw [h] at h'
  injection h' with h'
  injection h' with _ ht
  exact hne ht
theorem own_blk_ne {base size n : Nat} {e : TypeId} {v : Value} {xs : List Value} (h : w.ownsRow base e size v n xs) (hg : Blk w g t cs) (hne : e ≠ t) : v.ownBlock ≠ some g := by
  rcases h.2 with ⟨rfl, _⟩ | ⟨g', cap, cur, rfl, _, hh, _⟩
  · simp [Value.ownBlock]
  · intro he
    have : g' = g := by simpa [Value.ownBlock] using he
    subst this
    exact Blk.ne_ (t := e) hh hg hne rfl
theorem own_own_ne {base size n base' size' n' : Nat} {e e' : TypeId} {v v' : Value} {xs xs' : List Value} (h : w.ownsRow base e size v n xs) (h' : w.ownsRow base' e' size' v' n' xs') (hne : e ≠ e') {k : Nat} (hk : v.ownBlock = some k) : v'.ownBlock ≠ some k := by
  rcases h.2 with ⟨rfl, _⟩ | ⟨g', cap, cur, rfl, _, hh, _⟩
  · simp [Value.ownBlock] at hk
  · have : g' = k := by simpa [Value.ownBlock] using hk
    subst this
    exact own_blk_ne h' hh fun e => hne e.symm
theorem own_map_ne {base size n : Nat} {e : TypeId} {v : Value} {xs : List Value} {ks : List Value} (h : w.ownsRow base e size v n xs) (hg : IdxMap w g ks) : v.ownBlock ≠ some g := by
  rcases h.2 with ⟨rfl, _⟩ | ⟨g', cap, cur, rfl, _, hh, _⟩
  · simp [Value.ownBlock]
  · intro he
    have : g' = g := by simpa [Value.ownBlock] using he
    subst this
    obtain ⟨es, clock, h1, _⟩ := hg
    rw [hh] at h1; cases h1
theorem blk_map_ne {g' : Nat} {ks : List Value} (h : Blk w g t cs) (hg : IdxMap w g' ks) : g ≠ g' := by
  rintro rfl
  obtain ⟨es, clock, h1, _⟩ := hg
  unfold Blk at h
  rw [h] at h1; cases h1
theorem IdxMap.kept {ks : List Value} (h : IdxMap w g ks) (hk : Kept w w' X) (hn : ¬ X g) : IdxMap w' g ks := h.keep (hk.block g h.lt hn)
end

/-- Where an owned slice's block lies behind an append. -/
def Moved (w : World) (v v' : Value) : Prop := v'.ownBlock = v.ownBlock ∨ ∃ g, v'.ownBlock = some g ∧ w.heap.size ≤ g
theorem Moved.refl (w : World) (v : Value) : Moved w v v := .inl rfl
theorem Moved.trans {w w' : World} {a b c : Value} (h : Moved w a b) (hs : w.heap.size ≤ w'.heap.size) (k : Moved w' b c) : Moved w a c := by
  rcases k with k | ⟨g, k, hg⟩
  · rcases h with h | ⟨g, h, hg⟩
    · exact .inl (k.trans h)
    · exact .inr ⟨g, k.trans h, hg⟩
  · exact .inr ⟨g, k, by omega⟩
theorem Moved.ne {w : World} {a b : Value} (h : Moved w a b) {k : Nat} (hk : k < w.heap.size) (hn : a.ownBlock ≠ some k) : b.ownBlock ≠ some k := by
  rcases h with h | ⟨g, h, hg⟩
  · rw [h]; exact hn
  · rw [h]; intro e; injection e with e; omega

/-! ## append onto an owned row -/
/-- A slice type t of elements e: so many cells, so many bytes each. -/
structure RowTy (P : Program) (t e : TypeId) (size : Nat) : Prop where
  ht : P.underlying t = some (.slice e)
  info : ∃ i z bytes, P.info? e = some i ∧ i.zero = some z ∧ i.size = size ∧ i.bytes = bytes ∧ z.cells.size = size ∧ bytes ≤ 200
  pos : 0 < size

theorem rowTy_of {P : Program} {t e size bytes : Nat} {z : Value} (ht : P.underlying t = some (.slice e)) (hi : (P.info? e).map (fun i => (i.zero, i.size, i.bytes)) = some (some z, size, bytes)) (hz : z.cells.size = size) (hb : bytes ≤ 200) (hp : 0 < size) : RowTy P t e size := by
  obtain ⟨i, h1, h2, h3, h4⟩ := info_parts hi
  exact ⟨ht, ⟨i, z, bytes, h1, h2, h3, h4, hz, hb⟩, hp⟩

theorem slice_of_own {w : World} {base e size n : Nat} {v : Value} {xs : List Value} (h : w.ownsRow base e size v n xs) : ∃ A c, v = .slice A n c := by
  rcases h.2 with ⟨rfl, h0⟩ | ⟨g, cap, cur, rfl, _⟩
  · exact ⟨none, 0, by rw [h0]⟩
  · exact ⟨_, _, rfl⟩

section
variable {P : Program} {ops : Array Oper} {rest : List Oper} {o : Oper} {a : Act} {Q : Exit → Act → World → Prop}
theorem wpList_app {w : World} {t e size : Nat} (R : RowTy P t e size) (hgd : o.guard = none) (s x : Operand)
    (ho : o.op = .call { callee := .builtin .append, args := #[s, x], argTypes := #[t, t] })
    (base : Nat) (v : Value) (n : Nat) (xs : List Value) (hs : a.eval s = v) (hown : w.ownsRow base e size v n xs)
    (ad : Addr) (m c : Nat) (news : List Value) (hx : a.eval x = .slice (some ad) m c) (hl : news.length = m * size) (hnews : ∀ j u, news[j]? = some u → w.cell? (ad.add j) = some u) (h1 : ∀ u ∈ news, u.oneCell' = true)
    (hm : 0 < m) (hn : n + m ≤ 1000000) (hbase : base ≤ w.heap.size)
    (h : ∀ g cap w', w'.ownsRow base e size (.slice (some ⟨g, 0, none⟩) (n + m) cap) (n + m) (xs ++ news) → Kept w w' (fun k => v.ownBlock = some k) → Moved w v (.slice (some ⟨g, 0, none⟩) (n + m) cap) → g < w'.heap.size →
      wpList P ops Q rest (a.put o.dst (.slice (some ⟨g, 0, none⟩) (n + m) cap)) w') :
    wpList P ops Q (o :: rest) a w := by
  obtain ⟨i, z, bytes, hi, hz, hsize, hby, hzs, hb⟩ := R.info
  refine wpList_append_own_at w hgd s x t ho base e i z size bytes R.ht hi hz hsize hby hzs R.pos v n xs hs hown ad m c news hx hl hnews h1 (by unfold maxLen; omega) ?_ hbase ?_
  · exact Nat.le_trans (Nat.mul_le_mul hn hb) (by decide)
  · intro v' w' hown' hgrow hnil hat
    rcases hown'.2 with ⟨rfl, h0⟩ | ⟨g, cap, cur, rfl, hb2, hh, _⟩
    · exact absurd h0 (by omega)
    · refine h g cap w' hown' ?_ ?_ (Array.getElem?_eq_some_iff.1 hh).1
      · exact ⟨hgrow.os, hgrow.tape, hgrow.output, hgrow.size, fun k hk hn => hgrow.block k hk fun e => hn e.symm⟩
      · rcases hat with hat | hat
        · exact .inl hat
        · exact .inr ⟨_, hat, Nat.le_refl _⟩

/-- .. the element stands in a block that was laid for it. -/
theorem wpList_app_new {w : World} {t e size : Nat} (R : RowTy P t e size) (hgd : o.guard = none) (s x : Operand)
    (ho : o.op = .call { callee := .builtin .append, args := #[s, x], argTypes := #[t, t] })
    (base : Nat) (v : Value) (n : Nat) (xs : List Value) (hs : a.eval s = v) (hown : w.ownsRow base e size v n xs) (cs : List Value) (c : Nat)
    (hx : a.eval x = .slice (some ⟨w.heap.size, 0, none⟩) 1 c) (hl : cs.length = size) (h1 : ∀ u ∈ cs, u.oneCell' = true)
    (hn : n + 1 ≤ 1000000) (hbase : base ≤ w.heap.size)
    (h : ∀ g cap w', w'.ownsRow base e size (.slice (some ⟨g, 0, none⟩) (n + 1) cap) (n + 1) (xs ++ cs) → Kept w w' (fun k => v.ownBlock = some k) → Moved w v (.slice (some ⟨g, 0, none⟩) (n + 1) cap) → g < w'.heap.size →
      wpList P ops Q rest (a.put o.dst (.slice (some ⟨g, 0, none⟩) (n + 1) cap)) w') :
    wpList P ops Q (o :: rest) a (w.alloc (.cells cs.toArray e)) := by
  refine wpList_app R hgd s x ho base v n xs hs (hown.alloc _) ⟨w.heap.size, 0, none⟩ 1 c cs hx (by rw [hl]; omega) ?_ h1 (by omega) hn (by simp; omega) ?_
  · intro j u hj
    have hadd : (⟨w.heap.size, 0, none⟩ : Addr).add j = ⟨w.heap.size, j, none⟩ := by unfold Addr.add; split <;> simp_all
    rw [hadd, cell_of_row _ w.heap.size j cs.toArray e (0, 0) (heap_alloc_new w _)]
    simpa using hj
  · intro g cap w' hown' hk hmv hg
    refine h g cap w' hown' (((Kept.refl w (fun k => v.ownBlock = some k)).alloc (.cells cs.toArray e)).trans hk fun b _ hb => hb) ?_ hg
    rcases hmv with hmv | ⟨g', hmv, hg'⟩
    · exact .inl hmv
    · refine .inr ⟨g', hmv, ?_⟩
      simp at hg'
      omega
end
end Go.Proofs.Ytnimlcbgeiajiaa

namespace Go.Proofs.Ytnimlcbgeiajiaa
open Go.RowKit

def encU (s : Nat) : Value := .int .u64 (s : Int)
theorem keyU : KeyOK Try.prog 70 encU := keyOK_int .u64 Try.underlying70 (fun s : Nat => (s : Int)) (fun a b h => by omega)
theorem zero3 (w : World) : (zeroValue 3).run Try.prog w = .ok (.int .i64 0) w := by kernel_rfl
theorem info70 : (Try.prog.info? 70).map (fun i => (i.zero, i.size, i.bytes)) = some (some (.int .u64 0), 1, 8) := by kernel_rfl
theorem row69 : RowTy Try.prog 69 70 1 := rowTy_of Try.underlying69 info70 rfl (by omega) (by omega)

def meetL {S : Type} [DecidableEq S] (l : List S) (s : S) : List S := if s ∈ l then l else l ++ [s]

/-- The builder's memory: its struct in block gb, its map in block gm, its list the slice vl. -/
structure BldU (w : World) (base gb gm : Nat) (c0 c1 c4 c5 c6 : Value) (vl : Value) (l : List Nat) : Prop where
  blk : Blk w gb 138 #[c0, c1, .map (some gm), vl, c4, c5, c6]
  map : IdxMap w gm (l.map encU)
  row : w.ownsRow base 70 1 vl l.length (l.map encU)

set_option maxHeartbeats 1000000 in
theorem meetU_old (w : World) (base gb gm : Nat) (c0 c1 c4 c5 c6 vl : Value) (l : List Nat) (s : Nat) (h : BldU w base gb gm c0 c1 c4 c5 c6 vl l) (hs : s ∈ l) :
    Calls Try.prog 112 #[.pointer (some ⟨gb, 0, none⟩), .int .u64 (s : Int)] w fun e w' => e = .returned (.int .i64 (l.idxOf s)) ∧ w = w' := by
  have hc := h.blk.cell
  have hlk := run_idx_lookup keyU Try.underlying136 zero3 h.map s
  simp only [hs, if_true, decide_true, encU] at hlk
  go_enter Try.func112, Try.ntmps112
  go_wp2
  go_ret
  exact ⟨rfl, rfl⟩

set_option maxHeartbeats 2000000 in
set_option maxRecDepth 100000 in
theorem meetU_new (w : World) (base gb gm : Nat) (c0 c1 c4 c5 c6 vl : Value) (l : List Nat) (s : Nat) (h : BldU w base gb gm c0 c1 c4 c5 c6 vl l) (hs : s ∉ l) (hlen : l.length < 60000) (hbase : base ≤ w.heap.size) :
    Calls Try.prog 112 #[.pointer (some ⟨gb, 0, none⟩), .int .u64 (s : Int)] w (Ret fun v w' => v = .int .i64 (l.length : Int) ∧ ∃ vl', BldU w' base gb gm c0 c1 c4 c5 c6 vl' (l ++ [s]) ∧
      Kept w w' (fun k => k = gb ∨ k = gm ∨ vl.ownBlock = some k) ∧ Moved w vl vl') := by
  have hc := h.blk.cell
  have hlk := run_idx_lookup keyU Try.underlying136 zero3 h.map s
  simp only [hs, if_false, decide_false, encU] at hlk
  obtain ⟨wm, hup, hm1, hm2, -⟩ := run_idx_store keyU Try.underlying136 h.map s hs
  obtain ⟨A, c, rfl⟩ := slice_of_own h.row
  simp only [encU] at hup
  have hrow : wm.ownsRow base 70 1 (.slice A l.length c) l.length (l.map encU) := h.row.kept hm2 (.inr fun e => own_map_ne h.row h.map e)
  have hblk : Blk wm gb 138 #[c0, c1, .map (some gm), .slice A l.length c, c4, c5, c6] := h.blk.kept (Kept.of_grown hm2) (fun e => blk_map_ne h.blk h.map (Option.some.inj e).symm)
  have hc2 := hblk.cell
  have hsz := hblk.lt
  have hgmne : gm ≠ gb := fun e => blk_map_ne h.blk h.map e.symm
  have hms := hm2.size
  go_enter Try.func112, Try.ntmps112
  go_wp2_with (at_builtin; refine wpList_app_new row69 rfl _ _ rfl base (.slice A l.length c) l.length _ rfl hrow [.int .u64 (s : Int)] 1 rfl rfl (by simp [Value.oneCell']) (by omega) (by omega) ?_; intro g cap w1 hown hk1 hmv hg; have hblk2 := hblk.kept hk1 (fun e => own_blk_ne hrow hblk (by decide) e); have hc3 := hblk2.cell; have hf3 := hblk2.frozen)
  go_ret
  have hkA : Kept wm (w1.setCell ⟨gb, 3, none⟩ (.slice (some ⟨g, 0, none⟩) (l.length + 1) cap)) (fun k => k = gb ∨ (Value.slice A l.length c).ownBlock = some k) := (hk1.mono (fun _ _ h => .inr h)).setCell (fun _ => .inl rfl) _
  have hkB := (Kept.refl w1 (fun k => k = gb)).setCell (p := ⟨gb, 3, none⟩) (fun _ => rfl) (.slice (some ⟨g, 0, none⟩) (l.length + 1) cap)
  refine ⟨rfl, .slice (some ⟨g, 0, none⟩) (l.length + 1) cap, ⟨hblk2.set_ 3 _, hm1.kept hkA (fun h => h.elim hgmne (own_map_ne hrow hm1)), ?_⟩, ?_, (Moved.refl w _).trans hms hmv⟩
  · have := hkB.ownsRow hown (fun g' hg' e => own_blk_ne hown hblk2 (by decide) (by rw [← e]; exact hg'))
    simpa [encU] using this
  · refine ((Kept.of_grown hm2).mono (fun b _ hb => .inr (.inl (Option.some.inj hb).symm))).trans hkA ?_
    rintro b _ (hb | hb)
    · exact .inl hb
    · exact .inr (.inr hb)

theorem meetU (w : World) (base gb gm : Nat) (c0 c1 c4 c5 c6 vl : Value) (l : List Nat) (s : Nat) (h : BldU w base gb gm c0 c1 c4 c5 c6 vl l) (hlen : l.length < 60000) (hbase : base ≤ w.heap.size) :
    Calls Try.prog 112 #[.pointer (some ⟨gb, 0, none⟩), .int .u64 (s : Int)] w (Ret fun v w' => v = .int .i64 ((meetL l s).idxOf s : Int) ∧ ∃ vl', BldU w' base gb gm c0 c1 c4 c5 c6 vl' (meetL l s) ∧
      Kept w w' (fun k => k = gb ∨ k = gm ∨ vl.ownBlock = some k) ∧ Moved w vl vl') := by
  by_cases hs : s ∈ l
  · refine Calls.ret_eq (v := .int .i64 ((meetL l s).idxOf s : Int)) ((meetU_old w base gb gm c0 c1 c4 c5 c6 vl l s h hs).mono fun e w' ⟨he, hw⟩ => ?_)
    subst hw
    simp only [meetL, hs, if_true]
    exact ⟨he, by simp, vl, h, Kept.refl _ _, Moved.refl _ _⟩
  · refine (Calls.ret (meetU_new w base gb gm c0 c1 c4 c5 c6 vl l s h hs hlen hbase) fun v w' hv => ?_)
    simp only [Ret, meetL, hs, if_false]
    have : (l ++ [s]).idxOf s = l.length := by rw [List.idxOf_append, if_neg hs]; simp
    rw [this]
    exact hv
end Go.Proofs.Ytnimlcbgeiajiaa

namespace Go.Proofs.Ytnimlcbgeiajiaa
open Go.RowKit

/-- The loops of a piece of code, outer ones first. -/
def loopsOf : Code → List Code
  | .loop c => c :: loopsOf c
  | .seq a b => loopsOf a ++ loopsOf b
  | .block _ c => loopsOf c
  | .scope c => loopsOf c
  | .cond _ a b => loopsOf a ++ loopsOf b
  | _ => []
def loopBody (f : Func) (k : Nat) : Code := match f.body with
  | some c => (loopsOf c).getD k .skip
  | none => .skip

section
variable {S : Type} [DecidableEq S] (L : Nat) (leaf : Nat → S) (br : Nat → S → S → S)

/-- What is known after n rounds. -/
def Rn : Nat → S → Prop
  | 0, s => ∃ x, x < L ∧ s = leaf x
  | n + 1, s => Rn n s ∨ ∃ x a b, x < L ∧ Rn n a ∧ Rn n b ∧ s = br x a b

/-- A list between two rounds: l0 is known, l holds some of what one round more gives. -/
structure Mid (l0 l : List S) : Prop where
  pre : l0 <+: l
  nodup : l.Nodup
  from_ : ∀ s ∈ l, s ∈ l0 ∨ ∃ x a b, x < L ∧ a ∈ l0 ∧ b ∈ l0 ∧ s = br x a b

variable {L leaf br}
theorem mem_meetL {l : List S} {s t : S} : t ∈ meetL l s ↔ t ∈ l ∨ t = s := by
  unfold meetL
  split
  · rename_i h
    constructor
    · exact .inl
    · rintro (h' | rfl)
      · exact h'
      · exact h
  · simp
theorem prefix_meetL (l : List S) (s : S) : l <+: meetL l s := by
  unfold meetL
  split
  · exact List.prefix_refl _
  · exact List.prefix_append _ _
theorem nodup_meetL {l : List S} (h : l.Nodup) (s : S) : (meetL l s).Nodup := by
  unfold meetL
  split
  · exact h
  · rename_i hs
    rw [List.nodup_append]
    exact ⟨h, by simp, fun a ha b hb => by simp at hb; subst hb; rintro rfl; exact hs ha⟩
theorem length_meetL (l : List S) (s : S) : (meetL l s).length ≤ l.length + 1 := by
  unfold meetL
  split <;> simp
theorem get_meetL (l : List S) (s : S) : (meetL l s)[(meetL l s).idxOf s]? = some s := by
  have hm : s ∈ meetL l s := mem_meetL.2 (.inr rfl)
  rw [List.getElem?_eq_getElem (List.idxOf_lt_length_of_mem hm), List.getElem_idxOf]
omit [DecidableEq S] in
theorem Mid.refl {l : List S} (h : l.Nodup) : Mid L br l l := ⟨List.prefix_refl _, h, fun _ hs => .inl hs⟩
theorem Mid.meet {l0 l : List S} (h : Mid L br l0 l) {x : Nat} {a b : S} (hx : x < L) (ha : a ∈ l0) (hb : b ∈ l0) : Mid L br l0 (meetL l (br x a b)) :=
  ⟨h.pre.trans (prefix_meetL _ _), nodup_meetL h.nodup _, fun s hs => by
    rcases mem_meetL.1 hs with hs | rfl
    · exact h.from_ s hs
    · exact .inr ⟨x, a, b, hx, ha, hb, rfl⟩⟩
omit [DecidableEq S] in
theorem prefix_get {l l' : List S} (h : l <+: l') {i : Nat} {s : S} (hi : l[i]? = some s) : l'[i]? = some s := by
  obtain ⟨t, rfl⟩ := h
  rw [List.getElem?_append_left (by
    rcases Nat.lt_or_ge i l.length with h | h
    · exact h
    · rw [List.getElem?_eq_none h] at hi; cases hi)]
  exact hi
end

/-- Rows of numbers over a list: entry x of row j of line i is the number of 'br x l[i] l[j]'. -/
def RowOK {S : Type} (br : Nat → S → S → S) (l : List S) (i j : Nat) (row : List Nat) : Prop :=
  ∀ (x e : Nat), row[x]? = some e → ∃ s u, l[i]? = some s ∧ l[j]? = some u ∧ l[e]? = some (br x s u)
def TabOK {S : Type} (L : Nat) (br : Nat → S → S → S) (l : List S) (cnt : Nat → Nat) (t : List (List (List Nat))) : Prop :=
  ∀ (i : Nat) (r : List (List Nat)), t[i]? = some r → r.length = cnt i ∧ ∀ (j : Nat) (row : List Nat), r[j]? = some row → row.length = L ∧ RowOK br l i j row
def LeafOK {S : Type} (leaf : Nat → S) (l : List S) (lf : List Nat) : Prop := ∀ (x e : Nat), lf[x]? = some e → l[e]? = some (leaf x)

theorem RowOK.grow {S : Type} {br : Nat → S → S → S} {l l' : List S} {i j : Nat} {row : List Nat} (h : RowOK br l i j row) (hp : l <+: l') : RowOK br l' i j row := fun x e he => by
  obtain ⟨s, u, h1, h2, h3⟩ := h x e he
  exact ⟨s, u, prefix_get hp h1, prefix_get hp h2, prefix_get hp h3⟩
theorem TabOK.grow {S : Type} {L : Nat} {br : Nat → S → S → S} {l l' : List S} {cnt : Nat → Nat} {t : List (List (List Nat))} (h : TabOK L br l cnt t) (hp : l <+: l') : TabOK L br l' cnt t := fun i r hr =>
  ⟨(h i r hr).1, fun j row hj => ⟨((h i r hr).2 j row hj).1, ((h i r hr).2 j row hj).2.grow hp⟩⟩
theorem LeafOK.grow {S : Type} {leaf : Nat → S} {l l' : List S} {lf : List Nat} (h : LeafOK leaf l lf) (hp : l <+: l') : LeafOK leaf l' lf := fun x e he => prefix_get hp (h x e he)
theorem RowOK.snoc {S : Type} {br : Nat → S → S → S} {l : List S} {i j e : Nat} {row : List Nat} {s u : S} (h : RowOK br l i j row) (hi : l[i]? = some s) (hj : l[j]? = some u) (he : l[e]? = some (br row.length s u)) : RowOK br l i j (row ++ [e]) := by
  intro x e' hx
  by_cases hlt : x < row.length
  · rw [List.getElem?_append_left hlt] at hx
    exact h x e' hx
  · rw [List.getElem?_append_right (by omega)] at hx
    have hxe : x = row.length := by
      rcases Nat.lt_or_ge 0 (x - row.length) with h0 | h0
      · rw [List.getElem?_eq_none (by simp; omega)] at hx; cases hx
      · omega
    subst hxe
    simp at hx
    subst hx
    exact ⟨s, u, hi, hj, he⟩
theorem LeafOK.snoc {S : Type} {leaf : Nat → S} {l : List S} {e : Nat} {lf : List Nat} (h : LeafOK leaf l lf) (he : l[e]? = some (leaf lf.length)) : LeafOK leaf l (lf ++ [e]) := by
  intro x e' hx
  by_cases hlt : x < lf.length
  · rw [List.getElem?_append_left hlt] at hx
    exact h x e' hx
  · rw [List.getElem?_append_right (by omega)] at hx
    have hxe : x = lf.length := by
      rcases Nat.lt_or_ge 0 (x - lf.length) with h0 | h0
      · rw [List.getElem?_eq_none (by simp; omega)] at hx; cases hx
      · omega
    subst hxe
    simp at hx
    subst hx
    exact he

/-! ## rows in memory -/
def encN (n : Nat) : Value := .int .i64 (n : Int)
/-- A row of numbers. -/
def IntRow (w : World) (base : Nat) (v : Value) (xs : List Nat) : Prop := w.ownsRow base 3 1 v xs.length (xs.map encN)
/-- No block of X has one of the types ts. -/
def NoTy (w : World) (X : Nat → Prop) (ts : List TypeId) : Prop := ∀ g cs e, X g → w.heap[g]? = some (.cells cs e (0, 0)) → e ∉ ts
theorem own_kept {w w' : World} {X : Nat → Prop} {ts : List TypeId} (hX : NoTy w X ts) (hk : Kept w w' X) {base n size : Nat} {e : TypeId} {v : Value} {xs : List Value} (h : w.ownsRow base e size v n xs) (he : e ∈ ts) : w'.ownsRow base e size v n xs :=
  hk.ownsRow h fun g hg hx => by
    rcases h.2 with ⟨rfl, _⟩ | ⟨g', cap, cur, rfl, _, hh, _⟩
    · simp [Value.ownBlock] at hg
    · have : g' = g := by simpa [Value.ownBlock] using hg
      subst this
      exact hX _ _ _ hx hh he
/-- A row of rows. -/
def RowRow (w : World) (base : Nat) (v : Value) (rows : List (List Nat)) : Prop :=
  ∃ us : List Value, us.length = rows.length ∧ w.ownsRow base 22 1 v rows.length us ∧ ∀ (i : Nat) (u : Value) (r : List Nat), us[i]? = some u → rows[i]? = some r → IntRow w base u r
/-- A row of rows of rows: no two lines share a block. -/
def Tab (w : World) (base : Nat) (v : Value) (t : List (List (List Nat))) : Prop :=
  ∃ us : List Value, us.length = t.length ∧ w.ownsRow base 104 1 v t.length us ∧ (∀ (i : Nat) (u : Value) (r : List (List Nat)), us[i]? = some u → t[i]? = some r → RowRow w base u r) ∧
    ∀ (i j : Nat) (u u' : Value) (g : Nat), us[i]? = some u → us[j]? = some u' → u.ownBlock = some g → u'.ownBlock = some g → i = j
theorem IntRow.kept {w w' : World} {X : Nat → Prop} {ts : List TypeId} (hX : NoTy w X ts) (hk : Kept w w' X) {base : Nat} {v : Value} {xs : List Nat} (h : IntRow w base v xs) (he : 3 ∈ ts) : IntRow w' base v xs := own_kept hX hk h he
theorem RowRow.kept {w w' : World} {X : Nat → Prop} {ts : List TypeId} (hX : NoTy w X ts) (hk : Kept w w' X) {base : Nat} {v : Value} {xs : List (List Nat)} (h : RowRow w base v xs) (he : 3 ∈ ts) (he' : 22 ∈ ts) : RowRow w' base v xs := by
  obtain ⟨us, h1, h2, h3⟩ := h
  exact ⟨us, h1, own_kept hX hk h2 he', fun i u r hu hr => (h3 i u r hu hr).kept hX hk he⟩
theorem Tab.kept {w w' : World} {X : Nat → Prop} {ts : List TypeId} (hX : NoTy w X ts) (hk : Kept w w' X) {base : Nat} {v : Value} {t : List (List (List Nat))} (h : Tab w base v t) (he : 3 ∈ ts) (he' : 22 ∈ ts) (he'' : 104 ∈ ts) : Tab w' base v t := by
  obtain ⟨us, h1, h2, h3, h4⟩ := h
  exact ⟨us, h1, own_kept hX hk h2 he'', fun i u r hu hr => (h3 i u r hu hr).kept hX hk he he', h4⟩

/-- The builder's own blocks bear none of the machine's types. -/
theorem BldU.noTy {w : World} {base gb gm : Nat} {c0 c1 c4 c5 c6 vl : Value} {l : List Nat} (h : BldU w base gb gm c0 c1 c4 c5 c6 vl l) : NoTy w (fun k => k = gb ∨ k = gm ∨ vl.ownBlock = some k) [3, 4, 22, 82, 104] := by
  rintro g cs e (rfl | rfl | hg) hh
  · have := h.blk
    unfold Blk at this
    rw [this] at hh
    injection hh with hh
    injection hh with _ h2
    subst h2
    decide
  · obtain ⟨es, clock, h1, _⟩ := h.map
    rw [h1] at hh
    cases hh
  · rcases h.row.2 with ⟨rfl, _⟩ | ⟨g', cap, cur, rfl, _, h1, _⟩
    · simp [Value.ownBlock] at hg
    · have : g' = g := by simpa [Value.ownBlock] using hg
      subst this
      rw [h1] at hh
      injection hh with hh
      injection hh with _ h2
      subst h2
      decide
end Go.Proofs.Ytnimlcbgeiajiaa

namespace Go.Proofs.Ytnimlcbgeiajiaa
open Go.RowKit

/-- What build's closures answer, over the words that hold P. -/
structure ClosU (wb : World) (gb L : Nat) (cap4 cap5 cap6 : Value) (leaf : Nat → Nat) (br : Nat → Nat → Nat → Nat) (acc : Nat → Bool) (P : Nat → Prop) : Prop where
  fl : ∀ w', Kept wb w' (fun k => k = gb) → ∀ x : Nat, x < L → Calls Try.prog 98 #[.int .i64 x, cap4] w' (Ret fun v w'' => v = .int .u64 (leaf x : Int) ∧ Below w'.heap.size w' w'')
  fb : ∀ w', Kept wb w' (fun k => k = gb) → ∀ (x s t : Nat), x < L → P s → P t → Calls Try.prog 99 #[.int .i64 x, .int .u64 s, .int .u64 t, cap5] w' (Ret fun v w'' => v = .int .u64 (br x s t : Int) ∧ Below w'.heap.size w' w'')
  fa : ∀ w', Kept wb w' (fun k => k = gb) → ∀ s : Nat, P s → Calls Try.prog 100 #[.int .u64 s, cap6] w' (Ret fun v w'' => v = .bool (acc s) ∧ Below w'.heap.size w' w'')
  pleaf : ∀ x, x < L → P (leaf x)
  pbr : ∀ x s t, x < L → P s → P t → P (br x s t)

theorem BldU.below {w w' : World} {base gb gm : Nat} {c0 c1 c4 c5 c6 vl : Value} {l : List Nat} (h : BldU w base gb gm c0 c1 c4 c5 c6 vl l) (hb : Below w.heap.size w w') : BldU w' base gb gm c0 c1 c4 c5 c6 vl l :=
  ⟨h.blk.kept (Kept.of_below hb fun _ => False) id, h.map.kept (Kept.of_below hb fun _ => False) id, (Kept.of_below hb fun _ => False).ownsRow h.row fun _ _ => id⟩

/-- A fresh row that is being filled. -/
def fillC (L : Nat) (row : List Nat) : Array Value := (row.map encN ++ List.replicate (L - row.length) (Value.int .i64 0)).toArray
theorem fillC_set {L : Nat} {row : List Nat} (h : row.length < L) (e : Nat) : (fillC L row).setIfInBounds row.length (.int .i64 e) = fillC L (row ++ [e]) := by
  have h2 : List.replicate (L - row.length) (Value.int .i64 0) = .int .i64 0 :: List.replicate (L - (row.length + 1)) (.int .i64 0) := by
    rw [← List.replicate_succ]; congr 1; omega
  unfold fillC
  rw [h2]
  simp [encN]
theorem fillC_get {L : Nat} {row : List Nat} (h : row.length < L) : (fillC L row)[row.length]? = some (.int .i64 0) := by
  unfold fillC
  simp
  rw [List.getElem?_append_right (by simp), List.getElem?_replicate]
  simp; omega

theorem lt_of_get {D : Type} {l : List D} {k : Nat} {x : D} (h : l[k]? = some x) : k < l.length := by
  rcases Nat.lt_or_ge k l.length with hk | hk
  · exact hk
  · rw [List.getElem?_eq_none hk] at h; cases h
theorem map_get {D E : Type} {f : D → E} {l : List D} {k : Nat} {x : D} (h : l[k]? = some x) : (l.map f)[k]? = some (f x) := by rw [List.getElem?_map, h]; rfl
theorem RowOK.nil {S : Type} {br : Nat → S → S → S} {l : List S} {i j : Nat} : RowOK br l i j [] := fun x e h => by simp at h
theorem own_get {w : World} {base n : Nat} {e : TypeId} {v : Value} {xs : List Value} (h : w.ownsRow base e 1 v n xs) {k : Nat} {u : Value} (hk : xs[k]? = some u) :
    ∃ g cap, v = .slice (some ⟨g, 0, none⟩) n cap ∧ w.cell? ⟨g, k, none⟩ = some u := by
  obtain ⟨hl, hx⟩ := h
  have hkl := lt_of_get hk
  rcases hx with ⟨_, rfl⟩ | ⟨g, cap, cur, rfl, hb, hh, hc, hm, hs, ht⟩
  · omega
  · refine ⟨g, cap, rfl, ?_⟩
    rw [cell_of_row w g k cur e (0, 0) hh, ← hk, ← ht, List.getElem?_take]
    simp; omega
theorem own_base {w : World} {base size n : Nat} {e : TypeId} {v : Value} {xs : List Value} (h : w.ownsRow base e size v n xs) {k : Nat} (hk : v.ownBlock = some k) : base ≤ k := by
  rcases h.2 with ⟨rfl, _⟩ | ⟨g, cap, cur, rfl, hb, _⟩
  · simp [Value.ownBlock] at hk
  · have : g = k := by simpa [Value.ownBlock] using hk
    omega
theorem BldU.tops {w w0 : World} {gb gm gr : Nat} {c0 c1 c4 c5 c6 vl : Value} {l : List Nat} (h : BldU w w0.heap.size gb gm c0 c1 c4 c5 c6 vl l) (hgm : w0.heap.size ≤ gm) (hgr : w0.heap.size ≤ gr) :
    ∀ b, b < w0.heap.size → (b = gb ∨ b = gm ∨ b = gr ∨ vl.ownBlock = some b) → b = gb := by
  rintro b hb (h1 | h1 | h1 | h1)
  · exact h1
  · omega
  · omega
  · have := own_base h.row h1; omega
theorem BldU.not {w : World} {base gb gm gr : Nat} {c0 c1 c4 c5 c6 vl : Value} {l : List Nat} {t : TypeId} {cs : Array Value} (h : BldU w base gb gm c0 c1 c4 c5 c6 vl l) (hr : Blk w gr t cs) (h1 : t ≠ 138) (h2 : 70 ≠ t) : ¬ (gr = gb ∨ gr = gm ∨ vl.ownBlock = some gr) := by
  rintro (e | e | e)
  · exact hr.ne_ h.blk h1 e
  · exact blk_map_ne hr h.map e
  · exact own_blk_ne h.row hr h2 e
theorem BldU.setCell {w : World} {base gb gm gr k : Nat} {c0 c1 c4 c5 c6 vl : Value} {l : List Nat} (h : BldU w base gb gm c0 c1 c4 c5 c6 vl l) (hn : ¬ (gr = gb ∨ gr = gm ∨ vl.ownBlock = some gr)) (u : Value) : BldU (w.setCell ⟨gr, k, none⟩ u) base gb gm c0 c1 c4 c5 c6 vl l := by
  have hk := (Kept.refl w (fun b => b = gr)).setCell (p := ⟨gr, k, none⟩) (fun _ => rfl) u
  exact ⟨h.blk.kept hk fun e => hn (.inl e.symm), h.map.kept hk fun e => hn (.inr (.inl e.symm)), hk.ownsRow h.row fun g hg e => hn (.inr (.inr (by rw [← e]; exact hg)))⟩
theorem Moved.of_le {w0 w1 : World} {a b : Value} (h : Moved w1 a b) (hs : w0.heap.size ≤ w1.heap.size) : Moved w0 a b := by
  rcases h with h | ⟨g, h, hg⟩
  · exact .inl h
  · exact .inr ⟨g, h, by omega⟩
theorem len_le {D : Type} [DecidableEq D] : ∀ (l m : List D), l.Nodup → (∀ s ∈ l, s ∈ m) → l.length ≤ m.length
  | [], _, _, _ => Nat.zero_le _
  | a :: l, m, hn, hs => by
    have ha := hs a (by simp)
    have h1 := len_le l (m.erase a) (List.nodup_cons.1 hn).2 fun s hx => (List.mem_erase_of_ne (by rintro rfl; exact (List.nodup_cons.1 hn).1 hx)).2 (hs s (by simp [hx]))
    rw [List.length_erase_of_mem ha] at h1
    have := List.length_pos_of_mem ha
    simp
    omega
/-- All that one round may give. -/
def ways {S : Type} (br : Nat → S → S → S) (l0 : List S) : Nat → List S
  | 0 => []
  | x + 1 => ways br l0 x ++ l0.flatMap fun a => l0.map fun b => br x a b
theorem mem_ways {S : Type} {br : Nat → S → S → S} {l0 : List S} {L x : Nat} (hx : x < L) {a b : S} (ha : a ∈ l0) (hb : b ∈ l0) : br x a b ∈ ways br l0 L := by
  induction L with
  | zero => omega
  | succ L ih =>
    simp only [ways, List.mem_append]
    rcases Nat.lt_or_ge x L with h | h
    · exact .inl (ih h)
    · obtain rfl : x = L := by omega
      exact .inr (List.mem_flatMap.2 ⟨a, ha, List.mem_map.2 ⟨b, hb, rfl⟩⟩)
theorem len_flat {S : Type} {m : Nat} (f : S → List S) : ∀ l : List S, (∀ a ∈ l, (f a).length = m) → (l.flatMap f).length = l.length * m
  | [], _ => by simp
  | a :: l, h => by
    rw [List.flatMap_cons, List.length_append, len_flat f l fun b hb => h b (by simp [hb]), h a (by simp), List.length_cons, Nat.add_mul]
    omega
theorem len_ways {S : Type} (br : Nat → S → S → S) (l0 : List S) : ∀ L, (ways br l0 L).length = L * (l0.length * l0.length)
  | 0 => by simp [ways]
  | x + 1 => by
    rw [ways, List.length_append, len_ways br l0 x, len_flat (m := l0.length) _ _ (fun a _ => by simp), Nat.add_mul]
    omega
theorem Mid.len {S : Type} [DecidableEq S] {L : Nat} {br : Nat → S → S → S} {l0 l : List S} (h : Mid L br l0 l) (h0 : l0.length ≤ 64) (hL : L ≤ 8) : l.length ≤ 33000 := by
  have h1 := len_le l (l0 ++ ways br l0 L) h.nodup fun s hs => by
    rcases h.from_ s hs with h2 | ⟨x, a, b, hx, ha, hb, rfl⟩
    · simp [h2]
    · exact List.mem_append.2 (.inr (mem_ways hx ha hb))
  rw [List.length_append, len_ways] at h1
  have h2 : l0.length * l0.length ≤ 64 * 64 := Nat.mul_le_mul h0 h0
  have h3 : L * (l0.length * l0.length) ≤ 8 * (64 * 64) := Nat.mul_le_mul hL h2
  omega

set_option maxHeartbeats 4000000 in
set_option maxRecDepth 100000 in
theorem bld_fill {wb : World} {gb gm gr L i j : Nat} {c1 c4 c6 cap4 cap5 cap6 : Value} {leaf : Nat → Nat} {br : Nat → Nat → Nat → Nat} {acc : Nat → Bool} {P : Nat → Prop} (hC : ClosU wb gb L cap4 cap5 cap6 leaf br acc P)
    {l0 : List Nat} (hl0 : l0.length ≤ 64) (hL : L ≤ 8) {s t : Nat} (hs : l0[i]? = some s) (ht : l0[j]? = some t)
    {w : World} (hK : Kept wb w (fun k => k = gb)) {vl : Value} {l : List Nat} (hB : BldU w wb.heap.size gb gm (.int .i64 L) c1 c4 (.func (.func 99) #[] #[cap5]) c6 vl l) (hM : Mid L br l0 l) (hP : ∀ s ∈ l, P s)
    (hR : Blk w gr 3 (fillC L [])) (hgr : wb.heap.size ≤ gr) (hgm : wb.heap.size ≤ gm)
    {u1 u2 u3 u4 u5 u6 u7 u8 u12 u13 u14 u15 u16 u17 u18 u19 u20 u21 u22 u23 u24 u25 u26 u27 u28 u29 u30 u31 u32 u33 u34 u35 u36 u37 u38 u39 u40 u41 u42 u43 u44 u45 u46 u47 u48 u49 u50 u51 u52 u53 u54 u55 u56 u57 u58 u59 u60 u61 u62 u63 u64 u65 u66 u67 u68 u69 u70 u71 u72 u73 u74 u75 u76 u77 u78 u79 u80 u81 u82 u83 u84 u85 u86 u87 u88 u89 u90 u91 u92 u93 u94 u95 u96 u97 u98 u99 u100 u101 u102 u103 u104 u105 u106 u107 u108 u109 u110 u111 u112 u113 u114 u115 u116 u117 u118 u119 u120 u123 u124 u125 u126 u127 u128 u129 u130 u131 u132 u133 u134 u135 u136 u137 u138 u139 u140 u141 u142 u143 u144 u145 u146 u147 u148 u149 u150 u151 u152 u153 u154 u155 u156 u157 u158 u159 u160 u161 u162 u163 u164 u165 u166 u167 u168 u169 u170 u171 u172 u173 u174 u175 u176 u177 u178 u179 u180 u181 u182 u183 u184 u185 u186 u187 u188 u189 u190 u191 u192 u193 u194 u195 u196 : Value}
    {Q : Exit → Act → World → Prop} (hN : Reg.NoQ Q)
    (hQ : ∀ (x12 x122 x123 x124 x125 x126 x127 x128 x129 x130 x131 x132 x133 x134 x135 x136 x137 x138 x139 x140 x141 x142 x143 x144 x145 x146 x147 x148 x149 x150 : Value) (w' : World) (vl' : Value) (l' row : List Nat), BldU w' wb.heap.size gb gm (.int .i64 L) c1 c4 (.func (.func 99) #[] #[cap5]) c6 vl' l' → Mid L br l0 l' → l <+: l' → (∀ s ∈ l', P s) → row.length = L → RowOK br l' i j row →
      Blk w' gr 3 (fillC L row) → Kept w w' (fun k => k = gb ∨ k = gm ∨ k = gr ∨ vl.ownBlock = some k) → Moved w vl vl' →
      Q (.exit 8) ⟨List.toArray ((.pointer (some ⟨gb, 0, none⟩)) :: u1 :: u2 :: u3 :: u4 :: u5 :: u6 :: u7 :: u8 :: (.int .i64 i) :: (.int .i64 j) :: (.slice (some ⟨gr, 0, none⟩) L L) :: x12 :: u13 :: u14 :: u15 :: u16 :: u17 :: u18 :: u19 :: u20 :: u21 :: u22 :: u23 :: u24 :: u25 :: u26 :: 
      u27 :: u28 :: u29 :: u30 :: u31 :: u32 :: u33 :: u34 :: u35 :: u36 :: u37 :: u38 :: u39 :: u40 :: u41 :: u42 :: u43 :: u44 :: u45 :: u46 :: u47 :: u48 :: u49 :: u50 :: u51 :: u52 :: u53 :: u54 :: u55 :: u56 :: u57 :: u58 :: u59 :: u60 :: u61 :: u62 :: u63 :: 
      u64 :: u65 :: u66 :: u67 :: u68 :: u69 :: u70 :: u71 :: u72 :: u73 :: u74 :: u75 :: u76 :: u77 :: u78 :: u79 :: u80 :: u81 :: u82 :: u83 :: u84 :: u85 :: u86 :: u87 :: u88 :: u89 :: u90 :: u91 :: u92 :: u93 :: u94 :: u95 :: u96 :: u97 :: u98 :: u99 :: u100 :: 
      u101 :: u102 :: u103 :: u104 :: u105 :: u106 :: u107 :: u108 :: u109 :: u110 :: u111 :: u112 :: u113 :: u114 :: u115 :: u116 :: u117 :: u118 :: u119 :: u120 :: (.int .i64 L) :: x122 :: x123 :: x124 :: x125 :: x126 :: x127 :: x128 :: x129 :: x130 :: x131 :: 
      x132 :: x133 :: x134 :: x135 :: x136 :: x137 :: x138 :: x139 :: x140 :: x141 :: x142 :: x143 :: x144 :: x145 :: x146 :: x147 :: x148 :: x149 :: x150 :: u151 :: u152 :: u153 :: u154 :: u155 :: u156 :: u157 :: u158 :: u159 :: u160 :: u161 :: u162 :: u163 :: u164 :: 
      u165 :: u166 :: u167 :: u168 :: u169 :: u170 :: u171 :: u172 :: u173 :: u174 :: u175 :: u176 :: u177 :: u178 :: u179 :: u180 :: u181 :: u182 :: u183 :: u184 :: u185 :: u186 :: u187 :: u188 :: u189 :: u190 :: u191 :: u192 :: u193 :: u194 :: u195 :: u196 :: []), []⟩ w') :
    (Code.loop (loopBody Try.f101 4)).wp Try.prog Q ⟨List.toArray ((.pointer (some ⟨gb, 0, none⟩)) :: u1 :: u2 :: u3 :: u4 :: u5 :: u6 :: u7 :: u8 :: (.int .i64 i) :: (.int .i64 j) :: (.slice (some ⟨gr, 0, none⟩) L L) :: u12 :: u13 :: u14 :: u15 :: u16 :: u17 :: u18 :: u19 :: u20 :: u21 :: u22 :: u23 :: u24 :: u25 :: u26 :: 
      u27 :: u28 :: u29 :: u30 :: u31 :: u32 :: u33 :: u34 :: u35 :: u36 :: u37 :: u38 :: u39 :: u40 :: u41 :: u42 :: u43 :: u44 :: u45 :: u46 :: u47 :: u48 :: u49 :: u50 :: u51 :: u52 :: u53 :: u54 :: u55 :: u56 :: u57 :: u58 :: u59 :: u60 :: u61 :: u62 :: u63 :: 
      u64 :: u65 :: u66 :: u67 :: u68 :: u69 :: u70 :: u71 :: u72 :: u73 :: u74 :: u75 :: u76 :: u77 :: u78 :: u79 :: u80 :: u81 :: u82 :: u83 :: u84 :: u85 :: u86 :: u87 :: u88 :: u89 :: u90 :: u91 :: u92 :: u93 :: u94 :: u95 :: u96 :: u97 :: u98 :: u99 :: u100 :: 
      u101 :: u102 :: u103 :: u104 :: u105 :: u106 :: u107 :: u108 :: u109 :: u110 :: u111 :: u112 :: u113 :: u114 :: u115 :: u116 :: u117 :: u118 :: u119 :: u120 :: (.int .i64 L) :: (.int .i64 0) :: u123 :: u124 :: u125 :: u126 :: u127 :: u128 :: u129 :: u130 :: 
      u131 :: u132 :: u133 :: u134 :: u135 :: u136 :: u137 :: u138 :: u139 :: u140 :: u141 :: u142 :: u143 :: u144 :: u145 :: u146 :: u147 :: u148 :: u149 :: u150 :: u151 :: u152 :: u153 :: u154 :: u155 :: u156 :: u157 :: u158 :: u159 :: u160 :: u161 :: u162 :: u163 :: 
      u164 :: u165 :: u166 :: u167 :: u168 :: u169 :: u170 :: u171 :: u172 :: u173 :: u174 :: u175 :: u176 :: u177 :: u178 :: u179 :: u180 :: u181 :: u182 :: u183 :: u184 :: u185 :: u186 :: u187 :: u188 :: u189 :: u190 :: u191 :: u192 :: u193 :: u194 :: u195 :: u196 :: 
      []), []⟩ w := by
  conv => arg 2; arg 1; whnf
  go_loopw [122] (fun ii wr => ∃ (row l' : List Nat) (vl' : Value), ii = .int .i64 (row.length : Int) ∧ row.length ≤ L ∧ BldU wr wb.heap.size gb gm (.int .i64 L) c1 c4 (.func (.func 99) #[] #[cap5]) c6 vl' l' ∧ Mid L br l0 l' ∧ l <+: l' ∧ (∀ s ∈ l', P s) ∧ RowOK br l' i j row ∧
    Blk wr gr 3 (fillC L row) ∧ Kept w wr (fun k => k = gb ∨ k = gm ∨ k = gr ∨ vl.ownBlock = some k) ∧ Moved w vl vl') (fun ii _ => L - (intOf ii).toNat)
  case atStart => exact ⟨[], l, vl, rfl, Nat.zero_le _, hB, hM, List.prefix_refl _, hP, RowOK.nil, hR, Kept.refl _ _, Moved.refl _ _⟩
  case round =>
    obtain ⟨row, l', vl', rfl, hlen, hB', hM', hpre, hP', hrow, hR', hK', hmv⟩ := hrel
    have hKr := hK.trans hK' (hB.tops hgm hgr)
    have hi := prefix_get hM'.pre hs
    have hj := prefix_get hM'.pre ht
    have hPs := hP' s (List.mem_of_getElem? hi)
    have hPt := hP' t (List.mem_of_getElem? hj)
    have hll := hM'.len hl0 hL
    have hil := lt_of_get hi
    have hjl := lt_of_get hj
    obtain ⟨g, cap, hvl, hgi⟩ := own_get hB'.row (map_get (f := encU) hi)
    obtain ⟨g', cap', hvl', hgj⟩ := own_get hB'.row (map_get (f := encU) hj)
    rw [hvl] at hvl'
    injection hvl' with e1 e2 e3
    injection e1 with e1
    injection e1 with e1
    subst e1 e3
    subst hvl
    simp only [encU] at hgi hgj
    have hcb := hB'.blk.cell
    have hM2 := hide hM'
    have hPP := hide hP'
    have hpp := hide hpre
    have hrr := hide hrow
    have hHi := hide hi
    have hHj := hide hj
    have hHs := hide hs
    have hHt := hide ht
    clear hM' hP' hpre hrow hi hj hs ht hM hP
    go_wp2_with fail
    · refine Reg.region_plain [0, 0, 0, 0, 8, 24, 56, 0, 0, 256, 768, 1792, 0, 7936, 16128, 0, 32768, 98304, 229376, 0, 1015808, 2064384, 4194296, 8388604, 16777215, 33554431] (by kernel_rfl) (by repeat (first | exact hN | refine Reg.NoQ.then ?_ | refine Reg.NoQ.inBlock ?_)) ?_
      go_wp2_with (first | (go_at_call 99; refine Calls.ret (hC.fb _ hKr.drew row.length s t (by omega) hPs hPt) ?_; rintro v w1 ⟨rfl, hb0⟩; have hb1 : Below wr.heap.size wr w1 := ⟨hb0.os, hb0.tape, hb0.output, hb0.size, hb0.block⟩; clear hb0; have hB1 := hB'.below hb1; have hR1 := hR'.kept (Kept.of_below hb1 fun _ => False) id; have hsz1 := hb1.size) | (go_at_call 112; refine Calls.ret (meetU w1 wb.heap.size gb gm _ c1 c4 _ c6 _ l' (br row.length s t) hB1 (by omega) (Nat.le_trans hKr.size hsz1)) ?_; rintro v w2 ⟨rfl, vl2, hB2, hk2, hmv2⟩; have hR2 := hR1.kept hk2 (hB1.not hR1 (by decide) (by decide)); have hcR := (hR2.cell row.length).trans (fillC_get (by omega)); have hfR := hR2.frozen))
      refine ⟨⟨row ++ [(meetL l' (br row.length s t)).idxOf (br row.length s t)], _, vl2, by simp, by simp; omega, hB2.setCell (hB2.not hR2 (by decide) (by decide)) _, ?_, hpp.out.trans (prefix_meetL _ _), ?_, ?_, ?_, ?_, (hmv.trans hK'.size (hmv2.of_le hsz1))⟩, by simp [intOf]; omega⟩
      · exact hM2.out.meet (by omega) (List.mem_of_getElem? hHs.out) (List.mem_of_getElem? hHt.out)
      · intro u hu
        rcases mem_meetL.1 hu with hu | rfl
        · exact hPP.out u hu
        · exact hC.pbr _ _ _ (by omega) hPs hPt
      · exact (hrr.out.grow (prefix_meetL _ _)).snoc (prefix_get (prefix_meetL _ _) hHi.out) (prefix_get (prefix_meetL _ _) hHj.out) (get_meetL _ _)
      · rw [← fillC_set (by omega)]
        exact hR2.set_ _ _
      · refine Kept.setCell ((hK'.trans (Kept.of_below hb1 fun _ => False) fun _ _ h => h.elim).trans hk2 ?_) (fun _ => .inr (.inr (.inl rfl))) _
        rintro b hb (h1 | h1 | h1)
        · exact .inl h1
        · exact .inr (.inl h1)
        · refine .inr (.inr (.inr ?_))
          rcases hmv with hm | ⟨g1, hm, hg1⟩
          · rw [← hm]; exact h1
          · rw [hm] at h1
            injection h1 with h1
            omega
    · exact hQ _ _ _ _ _ _ _ _ _ _ _ _ _ _ _ _ _ _ _ _ _ _ _ _ _ _ _ _ _ _ wr _ l' row hB' hM2.out hpp.out hPP.out (by omega) hrr.out hR' hK' hmv
end Go.Proofs.Ytnimlcbgeiajiaa

namespace Go.Proofs.Ytnimlcbgeiajiaa
open Go.RowKit

theorem set_heap {w : World} {g k : Nat} {cur : Array Value} {e : TypeId} {u : Value} (h : w.heap[g]? = some (.cells cur e (0, 0))) : (w.setCell ⟨g, k, none⟩ u).heap[g]? = some (.cells (cur.setIfInBounds k u) e (0, 0)) :=
  Blk.set_ (t := e) h k u
theorem own_set {w : World} {base n g cap k : Nat} {e : TypeId} {xs : List Value} (h : w.ownsRow base e 1 (.slice (some ⟨g, 0, none⟩) n cap) n xs) (_hk : k < n) (u : Value) :
    (w.setCell ⟨g, k, none⟩ u).ownsRow base e 1 (.slice (some ⟨g, 0, none⟩) n cap) n (xs.set k u) := by
  refine ⟨by simpa using h.1, .inr ?_⟩
  rcases h.2 with ⟨hv, _⟩ | ⟨g', cap', cur, hv, hb, hh, h1, h2, h3, h4⟩
  · cases hv
  · injection hv with hg _ hc
    injection hg with hg
    injection hg with hg
    subst hg hc
    exact ⟨g, cap, _, rfl, hb, set_heap hh, h1, h2, by simpa using h3, by rw [Nat.mul_one] at h4 ⊢; simp [List.take_set, h4]⟩
theorem own_lt {w : World} {base size n : Nat} {e : TypeId} {v : Value} {xs : List Value} (h : w.ownsRow base e size v n xs) {k : Nat} (hk : v.ownBlock = some k) : k < w.heap.size := by
  rcases h.2 with ⟨rfl, _⟩ | ⟨g, cap, cur, rfl, hb, hh, _⟩
  · simp [Value.ownBlock] at hk
  · have : g = k := by simpa [Value.ownBlock] using hk
    subst this
    exact (Array.getElem?_eq_some_iff.1 hh).1
theorem own_nil {w : World} {base size : Nat} {e : TypeId} : w.ownsRow base e size (.slice none 0 0) 0 [] := ⟨by simp, .inl ⟨rfl, rfl⟩⟩
/-- A fresh block of cells is an owned row. -/
theorem own_of_blk {w : World} {base g n : Nat} {e : TypeId} {cs : Array Value} (h : Blk w g e cs) (hb : base ≤ g) (hn : cs.size = n) (hm : n ≤ 1000000) : w.ownsRow base e 1 (.slice (some ⟨g, 0, none⟩) n n) n cs.toList := by
  refine ⟨by simp [hn], .inr ⟨g, n, cs, rfl, hb, h, Nat.le_refl _, by unfold maxLen; omega, by omega, ?_⟩⟩
  rw [List.take_of_length_le (by simp [hn])]

/-- What is kept by a change of a block of another type. -/
theorem own_ty {w w' : World} {X : Nat → Prop} (hk : Kept w w' X) {base size n : Nat} {e : TypeId} {v : Value} {xs : List Value} (h : w.ownsRow base e size v n xs) (hX : ∀ g cs, X g → ¬ Blk w g e cs) : w'.ownsRow base e size v n xs :=
  hk.ownsRow h fun g hg hx => by
    rcases h.2 with ⟨rfl, _⟩ | ⟨g', cap, cur, rfl, _, hh, _⟩
    · simp [Value.ownBlock] at hg
    · have : g' = g := by simpa [Value.ownBlock] using hg
      subst this
      exact hX _ _ hx hh
/-- An owned row's block has its type. -/
theorem not_blk {w : World} {base size n : Nat} {e e' : TypeId} {v : Value} {xs : List Value} (h : w.ownsRow base e size v n xs) (hne : e ≠ e') : ∀ g cs, v.ownBlock = some g → ¬ Blk w g e' cs := fun _ _ hg hb => own_blk_ne h hb hne hg

structure TabU (w : World) (base : Nat) (v : Value) (us : List Value) (t : List (List (List Nat))) : Prop where
  len : us.length = t.length
  own : w.ownsRow base 104 1 v t.length us
  row : ∀ (i : Nat) (u : Value) (r : List (List Nat)), us[i]? = some u → t[i]? = some r → RowRow w base u r
  sep : ∀ (i j : Nat) (u u' : Value) (g : Nat), us[i]? = some u → us[j]? = some u' → u.ownBlock = some g → u'.ownBlock = some g → i = j

theorem Tab.open {w : World} {base : Nat} {v : Value} {t : List (List (List Nat))} (h : Tab w base v t) : ∃ us, TabU w base v us t := by
  obtain ⟨us, h1, h2, h3, h4⟩ := h
  exact ⟨us, h1, h2, h3, h4⟩
theorem TabU.close {w : World} {base : Nat} {v : Value} {us : List Value} {t : List (List (List Nat))} (h : TabU w base v us t) : Tab w base v t := ⟨us, h.len, h.own, h.row, h.sep⟩
theorem Tab.nil {w : World} {base : Nat} : Tab w base (.slice none 0 0) [] := ⟨[], rfl, own_nil, fun i u r h => by simp at h, fun i j u u' g h => by simp at h⟩
theorem RowRow.nil {w : World} {base : Nat} : RowRow w base (.slice none 0 0) [] := ⟨[], rfl, own_nil, fun i u r h => by simp at h⟩

theorem RowRow.keep {w w' : World} {X : Nat → Prop} (hk : Kept w w' X) {base : Nat} {v : Value} {r : List (List Nat)} (h : RowRow w base v r) (h3 : ∀ g cs, X g → ¬ Blk w g 3 cs) (hv : ∀ g, v.ownBlock = some g → ¬ X g) : RowRow w' base v r := by
  obtain ⟨us, h1, h2, h4⟩ := h
  exact ⟨us, h1, hk.ownsRow h2 hv, fun i u r hu hr => own_ty hk (h4 i u r hu hr) h3⟩
theorem TabU.keep {w w' : World} {X : Nat → Prop} (hk : Kept w w' X) {base : Nat} {v : Value} {us : List Value} {t : List (List (List Nat))} (h : TabU w base v us t) (h3 : ∀ g cs, X g → ¬ Blk w g 3 cs) (h22 : ∀ g cs, X g → ¬ Blk w g 22 cs) (hv : ∀ g, v.ownBlock = some g → ¬ X g) : TabU w' base v us t :=
  ⟨h.len, hk.ownsRow h.own hv, fun i u r hu hr => by
    obtain ⟨us, h1, h2, h4⟩ := h.row i u r hu hr
    exact ⟨us, h1, own_ty hk h2 h22, fun i u r hu hr => own_ty hk (h4 i u r hu hr) h3⟩, h.sep⟩

/-- A line more, without rows. -/
theorem TabU.push {w w' : World} {base : Nat} {v v' : Value} {us : List Value} {t : List (List (List Nat))} (h : TabU w base v us t) (hk : Kept w w' (fun k => v.ownBlock = some k)) (ho : w'.ownsRow base 104 1 v' (t.length + 1) (us ++ [.slice none 0 0])) :
    TabU w' base v' (us ++ [.slice none 0 0]) (t ++ [[]]) := by
  refine ⟨by simp [h.len], by simpa using ho, fun i u r hu hr => ?_, fun i j u u' g hu hu' hg hg' => ?_⟩
  · by_cases hi : i < us.length
    · rw [List.getElem?_append_left hi] at hu
      rw [List.getElem?_append_left (by rw [← h.len]; exact hi)] at hr
      obtain ⟨us', h1, h2, h4⟩ := h.row i u r hu hr
      exact ⟨us', h1, own_ty hk h2 (not_blk h.own (by decide)), fun i u r hu hr => own_ty hk (h4 i u r hu hr) (not_blk h.own (by decide))⟩
    · have h1 := lt_of_get hu
      simp at h1
      obtain rfl : i = us.length := by omega
      simp at hu
      rw [h.len] at hr
      simp at hr
      subst hu hr
      exact RowRow.nil
  · have aux : ∀ (i : Nat) (u : Value), (us ++ [Value.slice none 0 0])[i]? = some u → u.ownBlock = some g → us[i]? = some u := fun i u hu hg => by
      by_cases hi : i < us.length
      · rwa [List.getElem?_append_left hi] at hu
      · have h1 := lt_of_get hu
        simp at h1
        obtain rfl : i = us.length := by omega
        simp at hu
        subst hu
        simp [Value.ownBlock] at hg
    exact h.sep i j u u' g (aux i u hu hg) (aux j u' hu' hg') hg hg'

/-- A row more in line i. -/
theorem TabU.add {w w1 : World} {base gv cap i : Nat} {us uis : List Value} {t : List (List (List Nat))} {ui ui' vrow : Value} {r : List (List Nat)} {row : List Nat} {n : Nat}
    (h : TabU w base (.slice (some ⟨gv, 0, none⟩) n cap) us t) (hn : t.length = n) (hu : us[i]? = some ui) (hr : t[i]? = some r)
    (hul : uis.length = r.length) (hui : w.ownsRow base 22 1 ui r.length uis) (hrows : ∀ (k : Nat) (u : Value) (q : List Nat), uis[k]? = some u → r[k]? = some q → IntRow w base u q)
    (hv : IntRow w base vrow row) (hk : Kept w w1 (fun k => ui.ownBlock = some k)) (ho : w1.ownsRow base 22 1 ui' (r.length + 1) (uis ++ [vrow])) (hm : Moved w ui ui') :
    TabU (w1.setCell ⟨gv, i, none⟩ ui') base (.slice (some ⟨gv, 0, none⟩) n cap) (us.set i ui') (t.set i (r ++ [row])) := by
  subst hn
  have hi := lt_of_get hr
  have hgv := not_blk (e' := 3) h.own (by decide)
  have h104 : (w1.ownsRow base 104 1 (.slice (some ⟨gv, 0, none⟩) t.length cap) t.length us) := own_ty hk h.own (not_blk hui (by decide))
  have hks : Kept w1 (w1.setCell ⟨gv, i, none⟩ ui') (fun k => Value.ownBlock (.slice (some ⟨gv, 0, none⟩) t.length cap) = some k) := Kept.setCell (Kept.refl _ _) (p := ⟨gv, i, none⟩) (fun _ => by simp [Value.ownBlock]) _
  have hs := own_set h104 hi ui'
  refine ⟨by simp [h.len], by simpa using hs, fun k u q hu' hq => ?_, fun k j u u' g hk1 hj1 hg hg' => ?_⟩
  · by_cases hki : k = i
    · subst hki
      rw [List.getElem?_set_self (by rw [h.len]; exact hi)] at hu'
      rw [List.getElem?_set_self hi] at hq
      injection hu' with hu'
      injection hq with hq
      subst hu' hq
      refine ⟨uis ++ [vrow], by simp [hul], ?_, fun k u q hk1 hq1 => ?_⟩
      · have := own_ty hks ho (not_blk h104 (by decide))
        simpa using this
      · have h1 : IntRow w base u q := by
          by_cases hkl : k < uis.length
          · rw [List.getElem?_append_left hkl] at hk1
            rw [List.getElem?_append_left (by omega)] at hq1
            exact hrows k u q hk1 hq1
          · have h1 := lt_of_get hk1
            simp at h1
            obtain rfl : k = uis.length := by omega
            simp at hk1
            rw [hul] at hq1
            simp at hq1
            subst hk1 hq1
            exact hv
        exact own_ty hks (own_ty hk h1 (not_blk hui (by decide))) (not_blk h104 (by decide))
    · rw [List.getElem?_set_ne (fun e => hki e.symm)] at hu' hq
      obtain ⟨us', h1, h2, h4⟩ := h.row k u q hu' hq
      refine ⟨us', h1, own_ty hks (hk.ownsRow h2 fun g hg hx => hki (h.sep k i u ui g hu' hu hg hx)) (not_blk h104 (by decide)), fun k u q hu hq => own_ty hks (own_ty hk (h4 k u q hu hq) (not_blk hui (by decide))) (not_blk h104 (by decide))⟩
  · have aux : ∀ (k : Nat) (u : Value), (us.set i ui')[k]? = some u → (k = i ∧ u = ui') ∨ (k ≠ i ∧ us[k]? = some u) := fun k u hx => by
      by_cases hki : k = i
      · subst hki
        rw [List.getElem?_set_self (by rw [h.len]; exact hi)] at hx
        injection hx with hx
        exact .inl ⟨rfl, hx.symm⟩
      · rw [List.getElem?_set_ne (fun e => hki e.symm)] at hx
        exact .inr ⟨hki, hx⟩
    have old : ∀ (k : Nat) (u : Value), us[k]? = some u → u.ownBlock = some g → g < w.heap.size := fun k u hx hg => by
      obtain ⟨q, hq⟩ : ∃ q, t[k]? = some q := ⟨_, List.getElem?_eq_getElem (by rw [← h.len]; exact lt_of_get hx)⟩
      obtain ⟨_, _, h2, _⟩ := h.row k u q hx hq
      exact own_lt h2 hg
    have new : ∀ (k : Nat) (u : Value), k ≠ i → us[k]? = some u → u.ownBlock = some g → ui'.ownBlock = some g → False := fun k u hki hx hg hg' => by
      rcases hm with hm | ⟨g1, hm, hg1⟩
      · exact hki (h.sep k i u ui g hx hu hg (by rw [← hm]; exact hg'))
      · rw [hm] at hg'
        injection hg' with hg'
        have := old k u hx hg
        omega
    rcases aux k u hk1 with ⟨rfl, rfl⟩ | ⟨hki, hx⟩
    · rcases aux j u' hj1 with ⟨rfl, rfl⟩ | ⟨hji, hy⟩
      · rfl
      · exact (new j u' hji hy hg' hg).elim
    · rcases aux j u' hj1 with ⟨rfl, rfl⟩ | ⟨hji, hy⟩
      · exact (new k u hki hx hg hg').elim
      · exact h.sep k j u u' g hx hy hg hg'
end Go.Proofs.Ytnimlcbgeiajiaa

namespace Go.Proofs.Ytnimlcbgeiajiaa
open Go.RowKit

theorem madeCells_one (z : Value) (n : Nat) : madeCells #[z] (n * 1) = Array.replicate n z := by
  apply Array.ext
  · simp [madeCells]
  · intro i h1 h2
    simp [madeCells, Nat.mod_one]
theorem mk_facts {P : Program} {t e bytes : Nat} {z : Value} (ht : P.underlying t = some (.slice e)) (hi : (P.info? e).map (fun i => (i.zero, i.size, i.bytes)) = some (some z, 1, bytes)) (hz : z.cells = #[z]) (hb : bytes ≤ 200)
    (w : World) (n : Nat) (hn : n ≤ 100000) :
    ∃ g w1, (Instr.makeSlice t (.int .i64 n) (.int .i64 n)).run P w = .ok (.slice (some ⟨g, 0, none⟩) n n) w1 ∧ Blk w1 g e (Array.replicate n z) ∧ Below w.heap.size w w1 ∧ w.heap.size ≤ g := by
  obtain ⟨i, h1, h2, h3, h4⟩ := info_parts hi
  have hb' : bytes * n ≤ 200 * 100000 := Nat.mul_le_mul hb hn
  have hb2 : (i.bytes : Int) * (n : Int) ≤ 281474976710656 := by
    rw [h4, ← Int.natCast_mul]; omega
  have hr := run_makeSlice (P := P) w t e i z ht h1 h2 .i64 .i64 n n (by omega) (Int.le_refl _) (by rw [h3]; simp; omega) hb2 (by omega)
  simp only [Int.toNat_natCast] at hr
  rw [h3, hz, madeCells_one] at hr
  exact ⟨_, _, hr, Blk.new _ _ _, (Below.refl _ _).alloc (Nat.le_refl _) _, Nat.le_refl _⟩
theorem info3 : (Try.prog.info? 3).map (fun i => (i.zero, i.size, i.bytes)) = some (some (.int .i64 0), 1, 8) := by kernel_rfl
theorem mk_row (w : World) (n : Nat) (hn : n ≤ 100000) :
    ∃ g w1, (Instr.makeSlice 22 (.int .i64 n) (.int .i64 n)).run Try.prog w = .ok (.slice (some ⟨g, 0, none⟩) n n) w1 ∧ Blk w1 g 3 (Array.replicate n (.int .i64 0)) ∧ Below w.heap.size w w1 ∧ w.heap.size ≤ g :=
  mk_facts Try.underlying22 info3 rfl (by omega) w n hn
theorem fillC_nil (L : Nat) : fillC L [] = Array.replicate L (.int .i64 0) := by simp [fillC]
end Go.Proofs.Ytnimlcbgeiajiaa

namespace Go.Proofs.Ytnimlcbgeiajiaa
open Go.RowKit

/-- The memory of a build: the builder, its closures, the machine that grows. -/
structure BWU (wb w : World) (gb gm gM L : Nat) (c1 cap4 cap5 cap6 vl vleaf vbr : Value) (l lf : List Nat) (t : List (List (List Nat))) : Prop where
  kept : Kept wb w (fun k => k = gb)
  bld : BldU w wb.heap.size gb gm (.int .i64 L) c1 (.func (.func 98) #[] #[cap4]) (.func (.func 99) #[] #[cap5]) (.func (.func 100) #[] #[cap6]) vl l
  mach : Blk w gM 82 #[.int .i64 L, .slice none 0 0, vleaf, vbr]
  lfs : IntRow w wb.heap.size vleaf lf
  tab : Tab w wb.heap.size vbr t
  gm_ : wb.heap.size ≤ gm
  gM_ : wb.heap.size ≤ gM

section
variable {wb w w' : World} {gb gm gM L : Nat} {c1 cap4 cap5 cap6 vl vl' vleaf vbr : Value} {l l' lf : List Nat} {t : List (List (List Nat))}
/-- Another list, the same machine. -/
theorem BWU.list (h : BWU wb w gb gm gM L c1 cap4 cap5 cap6 vl vleaf vbr l lf t) (hk : Kept w w' (fun k => k = gb ∨ k = gm ∨ vl.ownBlock = some k))
    (hb : BldU w' wb.heap.size gb gm (.int .i64 L) c1 (.func (.func 98) #[] #[cap4]) (.func (.func 99) #[] #[cap5]) (.func (.func 100) #[] #[cap6]) vl' l') : BWU wb w' gb gm gM L c1 cap4 cap5 cap6 vl' vleaf vbr l' lf t := by
  have h3 : ∀ (e : TypeId), e ≠ 138 → 70 ≠ e → ∀ g cs, (g = gb ∨ g = gm ∨ vl.ownBlock = some g) → ¬ Blk w g e cs := fun e h1 h2 g cs hx hb => h.bld.not hb h1 h2 hx
  obtain ⟨us, ht⟩ := h.tab.open
  refine ⟨h.kept.trans hk (fun b hb hx => ?_), hb, h.mach.kept hk (h.bld.not h.mach (by decide) (by decide)), own_ty hk h.lfs (h3 3 (by decide) (by decide)),
    (ht.keep hk (h3 3 (by decide) (by decide)) (h3 22 (by decide) (by decide)) fun g hg hx => ?_).close, h.gm_, h.gM_⟩
  · rcases hx with hx | hx | hx
    · exact hx
    · have := h.gm_; omega
    · have := own_base h.bld.row hx; omega
  · rcases ht.own.2 with ⟨rfl, _⟩ | ⟨g', cap, cur, rfl, _, hh, _⟩
    · simp [Value.ownBlock] at hg
    · have : g' = g := by simpa [Value.ownBlock] using hg
      subst this
      exact h3 104 (by decide) (by decide) _ cur hx hh
theorem BWU.below (h : BWU wb w gb gm gM L c1 cap4 cap5 cap6 vl vleaf vbr l lf t) (hb : Below w.heap.size w w') : BWU wb w' gb gm gM L c1 cap4 cap5 cap6 vl vleaf vbr l lf t :=
  h.list (Kept.of_below hb _) (h.bld.below hb)
end

def upd (f : Nat → Nat) (i j : Nat) : Nat → Nat := fun k => if k = i then j else f k
theorem own_blk {w : World} {base size n : Nat} {e : TypeId} {v : Value} {xs : List Value} (h : w.ownsRow base e size v n xs) {k : Nat} (hk : v.ownBlock = some k) : ∃ cs, Blk w k e cs := by
  rcases h.2 with ⟨rfl, _⟩ | ⟨g, cap, cur, rfl, hb, hh, _⟩
  · simp [Value.ownBlock] at hk
  · have : g = k := by simpa [Value.ownBlock] using hk
    subst this
    exact ⟨cur, hh⟩
theorem BldU.other {w w' : World} {X : Nat → Prop} {base gb gm : Nat} {c0 c1 c4 c5 c6 vl : Value} {l : List Nat} (h : BldU w base gb gm c0 c1 c4 c5 c6 vl l) (hk : Kept w w' X) (hX : ∀ k, X k → ∃ t cs, Blk w k t cs ∧ t ≠ 138 ∧ 70 ≠ t) : BldU w' base gb gm c0 c1 c4 c5 c6 vl l := by
  have hn : ∀ k, X k → ¬ (k = gb ∨ k = gm ∨ vl.ownBlock = some k) := fun k hx => by
    obtain ⟨t, cs, hb, h1, h2⟩ := hX k hx
    exact h.not hb h1 h2
  exact ⟨h.blk.kept hk fun hx => hn _ hx (.inl rfl), h.map.kept hk fun hx => hn _ hx (.inr (.inl rfl)), hk.ownsRow h.row fun g hg hx => hn _ hx (.inr (.inr hg))⟩
/-- The machine's table changes. -/
theorem BWU.table {wb w w' : World} {X : Nat → Prop} {gb gm gM L : Nat} {c1 cap4 cap5 cap6 vl vleaf vbr vbr' : Value} {l lf : List Nat} {t t' : List (List (List Nat))} (h : BWU wb w gb gm gM L c1 cap4 cap5 cap6 vl vleaf vbr l lf t) (hk : Kept w w' X)
    (hX : ∀ k, X k → wb.heap.size ≤ k ∧ ∃ t cs, Blk w k t cs ∧ t ≠ 138 ∧ 70 ≠ t ∧ t ≠ 3) (hm : Blk w' gM 82 #[.int .i64 L, .slice none 0 0, vleaf, vbr']) (ht : Tab w' wb.heap.size vbr' t') : BWU wb w' gb gm gM L c1 cap4 cap5 cap6 vl vleaf vbr' l lf t' :=
  ⟨h.kept.trans hk fun b hb hx => by have := (hX b hx).1; omega,
    h.bld.other hk fun k hx => by
      obtain ⟨_, t, cs, hb, h1, h2, _⟩ := hX k hx
      exact ⟨t, cs, hb, h1, h2⟩,
    hm, own_ty hk h.lfs fun g cs hx hb => by
      obtain ⟨_, t, cs', hb', _, _, h3⟩ := hX g hx
      exact hb'.ne_ hb h3 rfl, ht, h.gm_, h.gM_⟩
theorem upd_self (f : Nat → Nat) (i j : Nat) : upd f i j i = j := by simp [upd]
theorem TabOK.set {S : Type} {L : Nat} {br : Nat → S → S → S} {l : List S} {cnt : Nat → Nat} {t : List (List (List Nat))} {i j : Nat} {r : List (List Nat)} {row : List Nat} (h : TabOK L br l (upd cnt i j) t) (hr : t[i]? = some r) (hl : row.length = L) (hrow : RowOK br l i j row) : TabOK L br l (upd cnt i (j + 1)) (t.set i (r ++ [row])) := by
  have hi := lt_of_get hr
  obtain ⟨h1, h2⟩ := h i r hr
  rw [upd_self] at h1
  intro k q hq
  by_cases hk : k = i
  · subst hk
    rw [List.getElem?_set_self hi] at hq
    injection hq with hq
    subst hq
    refine ⟨by rw [upd_self]; simp [h1], fun j' row' hj => ?_⟩
    by_cases hj' : j' < r.length
    · rw [List.getElem?_append_left hj'] at hj
      exact h2 j' row' hj
    · have h3 := lt_of_get hj
      simp at h3
      obtain rfl : j' = r.length := by omega
      simp at hj
      subst hj h1
      exact ⟨hl, hrow⟩
  · rw [List.getElem?_set_ne (fun e => hk e.symm)] at hq
    have := h k q hq
    simpa [upd, hk] using this
theorem own_cell {w : World} {base n g cap k : Nat} {e : TypeId} {xs : List Value} {u : Value} (h : w.ownsRow base e 1 (.slice (some ⟨g, 0, none⟩) n cap) n xs) (hk : xs[k]? = some u) : w.cell? ⟨g, k, none⟩ = some u := by
  obtain ⟨g', cap', he, hc⟩ := own_get h hk
  injection he with hg _ _
  injection hg with hg
  injection hg with hg
  subst hg
  exact hc
theorem own_frozen {w : World} {base n g cap size : Nat} {e : TypeId} {xs : List Value} (h : w.ownsRow base e size (.slice (some ⟨g, 0, none⟩) n cap) n xs) (k : Nat) : w.frozen? ⟨g, k, none⟩ = false := by
  rcases h.2 with ⟨hv, _⟩ | ⟨g', cap', cur, hv, hb, hh, _⟩
  · cases hv
  · injection hv with hg _ _
    injection hg with hg
    injection hg with hg
    subst hg
    exact Blk.frozen (t := e) hh k
theorem fillC_full {w : World} {base g L : Nat} {row : List Nat} (h : Blk w g 3 (fillC L row)) (hl : row.length = L) (hb : base ≤ g) (hL : L ≤ 8) : IntRow w base (.slice (some ⟨g, 0, none⟩) L L) row := by
  have h1 := own_of_blk (n := L) h hb (by simp [fillC]; omega) (by omega)
  have h2 : (fillC L row).toList = row.map encN := by simp [fillC, hl]
  rw [h2] at h1
  unfold IntRow
  rw [hl]
  exact h1
theorem info22 : (Try.prog.info? 22).map (fun i => (i.zero, i.size, i.bytes)) = some (some (.slice none 0 0), 1, 24) := by kernel_rfl
theorem row104 : RowTy Try.prog 104 22 1 := rowTy_of Try.underlying104 info22 rfl (by omega) (by omega)

set_option maxHeartbeats 4000000 in
set_option maxRecDepth 100000 in
theorem bld_rows {wb : World} {gb gm gM L i j0 : Nat} {c1 cap4 cap5 cap6 : Value} {leaf : Nat → Nat} {br : Nat → Nat → Nat → Nat} {acc : Nat → Bool} {P : Nat → Prop} (hC : ClosU wb gb L cap4 cap5 cap6 leaf br acc P)
    {l0 : List Nat} (hl0 : l0.length ≤ 64) (hL : L ≤ 8) (hi : i < l0.length) (hj0 : j0 ≤ l0.length)
    {w : World} {vl vleaf vbr : Value} {l lf : List Nat} {t : List (List (List Nat))} (hB : BWU wb w gb gm gM L c1 cap4 cap5 cap6 vl vleaf vbr l lf t) (hM : Mid L br l0 l) (hP : ∀ s ∈ l, P s)
    {cnt : Nat → Nat} (hc : cnt i = j0) (hit : i < t.length) (hT : TabOK L br l cnt t)
    {u1 u2 u4 u5 u6 u7 u11 u12 u13 u14 u15 u16 u17 u18 u19 u20 u21 u22 u23 u24 u25 u26 u27 u28 u29 u30 u31 u32 u33 u34 u35 u36 u37 u38 u39 u40 u41 u42 u43 u44 u45 u46 u47 u48 u49 u50 u51 u52 u53 u54 u55 u56 u57 u58 u59 u60 u61 u62 u63 u64 u65 u66 u67 u68 u69 u70 u71 u72 u73 u74 u75 u76 u77 u78 u79 u80 u81 u82 u83 u84 u85 u86 u87 u88 u89 u90 u91 u92 u93 u94 u95 u96 u97 u98 u99 u100 u101 u102 u103 u104 u105 u106 u107 u108 u109 u110 u111 u112 u113 u114 u115 u116 u117 u118 u119 u120 u121 u122 u123 u124 u125 u126 u127 u128 u129 u130 u131 u132 u133 u134 u135 u136 u137 u138 u139 u140 u141 u142 u143 u144 u145 u146 u147 u148 u149 u150 u151 u152 u153 u154 u155 u156 u157 u158 u159 u160 u161 u162 u163 u164 u165 u166 u167 u168 u169 u170 u171 u172 u173 u174 u175 u176 u177 u178 u179 u180 u181 u182 u183 u184 u185 u186 u187 u188 u189 u190 u191 u192 u193 u194 u195 u196 : Value}
    {Q : Exit → Act → World → Prop} (hN : Reg.NoQ Q)
    (hQ : ∀ (x10 x11 x12 x110 x111 x112 x113 x114 x115 x116 x117 x118 x119 x120 x121 x122 x123 x124 x125 x126 x127 x128 x129 x130 x131 x132 x133 x134 x135 x136 x137 x138 x139 x140 x141 x142 x143 x144 x145 x146 x147 x148 x149 x150 x151 x152 x153 x154 x155 x156 x157 x158 x159 x160 x161 x162 x163 x164 x165 x166 : Value) (w' : World) (vl' : Value) (l' : List Nat) (t' : List (List (List Nat))), BWU wb w' gb gm gM L c1 cap4 cap5 cap6 vl' vleaf vbr l' lf t' → Mid L br l0 l' → l <+: l' → (∀ s ∈ l', P s) →
      TabOK L br l' (upd cnt i l0.length) t' → t'.length = t.length →
      Q (.exit 6) ⟨List.toArray ((.pointer (some ⟨gb, 0, none⟩)) :: u1 :: u2 :: (.pointer (some ⟨gM, 0, none⟩)) :: u4 :: u5 :: u6 :: u7 :: (.int .i64 l0.length) :: (.int .i64 i) :: x10 :: x11 :: x12 :: u13 :: u14 :: u15 :: u16 :: u17 :: u18 :: u19 :: u20 :: u21 :: u22 :: u23 :: u24 :: u25 :: 
      u26 :: u27 :: u28 :: u29 :: u30 :: u31 :: u32 :: u33 :: u34 :: u35 :: u36 :: u37 :: u38 :: u39 :: u40 :: u41 :: u42 :: u43 :: u44 :: u45 :: u46 :: u47 :: u48 :: u49 :: u50 :: u51 :: u52 :: u53 :: u54 :: u55 :: u56 :: u57 :: u58 :: u59 :: u60 :: u61 :: u62 :: 
      u63 :: u64 :: u65 :: u66 :: u67 :: u68 :: u69 :: u70 :: u71 :: u72 :: u73 :: u74 :: u75 :: u76 :: u77 :: u78 :: u79 :: u80 :: u81 :: u82 :: u83 :: u84 :: u85 :: u86 :: u87 :: u88 :: u89 :: u90 :: u91 :: u92 :: u93 :: u94 :: u95 :: u96 :: u97 :: u98 :: u99 :: 
      u100 :: u101 :: u102 :: u103 :: u104 :: u105 :: u106 :: u107 :: u108 :: u109 :: x110 :: x111 :: x112 :: x113 :: x114 :: x115 :: x116 :: x117 :: x118 :: x119 :: x120 :: x121 :: x122 :: x123 :: x124 :: x125 :: x126 :: x127 :: x128 :: x129 :: x130 :: x131 :: x132 :: 
      x133 :: x134 :: x135 :: x136 :: x137 :: x138 :: x139 :: x140 :: x141 :: x142 :: x143 :: x144 :: x145 :: x146 :: x147 :: x148 :: x149 :: x150 :: x151 :: x152 :: x153 :: x154 :: x155 :: x156 :: x157 :: x158 :: x159 :: x160 :: x161 :: x162 :: x163 :: x164 :: x165 :: 
      x166 :: u167 :: u168 :: u169 :: u170 :: u171 :: u172 :: u173 :: u174 :: u175 :: u176 :: u177 :: u178 :: u179 :: u180 :: u181 :: u182 :: u183 :: u184 :: u185 :: u186 :: u187 :: u188 :: u189 :: u190 :: u191 :: u192 :: u193 :: u194 :: u195 :: u196 :: []), []⟩ w') :
    (Code.loop (loopBody Try.f101 3)).wp Try.prog Q ⟨List.toArray ((.pointer (some ⟨gb, 0, none⟩)) :: u1 :: u2 :: (.pointer (some ⟨gM, 0, none⟩)) :: u4 :: u5 :: u6 :: u7 :: (.int .i64 l0.length) :: (.int .i64 i) :: (.int .i64 j0) :: u11 :: u12 :: u13 :: u14 :: u15 :: u16 :: u17 :: u18 :: u19 :: u20 :: u21 :: u22 :: u23 :: u24 :: 
      u25 :: u26 :: u27 :: u28 :: u29 :: u30 :: u31 :: u32 :: u33 :: u34 :: u35 :: u36 :: u37 :: u38 :: u39 :: u40 :: u41 :: u42 :: u43 :: u44 :: u45 :: u46 :: u47 :: u48 :: u49 :: u50 :: u51 :: u52 :: u53 :: u54 :: u55 :: u56 :: u57 :: u58 :: u59 :: u60 :: u61 :: 
      u62 :: u63 :: u64 :: u65 :: u66 :: u67 :: u68 :: u69 :: u70 :: u71 :: u72 :: u73 :: u74 :: u75 :: u76 :: u77 :: u78 :: u79 :: u80 :: u81 :: u82 :: u83 :: u84 :: u85 :: u86 :: u87 :: u88 :: u89 :: u90 :: u91 :: u92 :: u93 :: u94 :: u95 :: u96 :: u97 :: u98 :: 
      u99 :: u100 :: u101 :: u102 :: u103 :: u104 :: u105 :: u106 :: u107 :: u108 :: u109 :: u110 :: u111 :: u112 :: u113 :: u114 :: u115 :: u116 :: u117 :: u118 :: u119 :: u120 :: u121 :: u122 :: u123 :: u124 :: u125 :: u126 :: u127 :: u128 :: u129 :: u130 :: u131 :: 
      u132 :: u133 :: u134 :: u135 :: u136 :: u137 :: u138 :: u139 :: u140 :: u141 :: u142 :: u143 :: u144 :: u145 :: u146 :: u147 :: u148 :: u149 :: u150 :: u151 :: u152 :: u153 :: u154 :: u155 :: u156 :: u157 :: u158 :: u159 :: u160 :: u161 :: u162 :: u163 :: u164 :: 
      u165 :: u166 :: u167 :: u168 :: u169 :: u170 :: u171 :: u172 :: u173 :: u174 :: u175 :: u176 :: u177 :: u178 :: u179 :: u180 :: u181 :: u182 :: u183 :: u184 :: u185 :: u186 :: u187 :: u188 :: u189 :: u190 :: u191 :: u192 :: u193 :: u194 :: u195 :: u196 :: []), []⟩ w := by
  conv => arg 2; arg 1; whnf
  go_loopw [10] (fun jj wr => ∃ (j : Nat) (l' : List Nat) (vl' : Value) (t' : List (List (List Nat))), jj = .int .i64 (j : Int) ∧ j ≤ l0.length ∧ BWU wb wr gb gm gM L c1 cap4 cap5 cap6 vl' vleaf vbr l' lf t' ∧ Mid L br l0 l' ∧ l <+: l' ∧ (∀ s ∈ l', P s) ∧
    TabOK L br l' (upd cnt i j) t' ∧ t'.length = t.length) (fun jj _ => l0.length - (intOf jj).toNat)
  case atStart =>
    refine ⟨j0, l, vl, t, rfl, hj0, hB, hM, List.prefix_refl _, hP, ?_, rfl⟩
    have e : upd cnt i j0 = cnt := by funext k; unfold upd; split <;> simp_all
    rw [e]; exact hT
  case round =>
    obtain ⟨j, l', vl', t', rfl, hj, hB', hM', hpre, hP', hT', htl⟩ := hrel
    have hcb := hB'.bld.blk.cell
    have hM2 := hide hM'
    have hPP := hide hP'
    have hpp := hide hpre
    have hTT := hide hT'
    have hTL := hide htl
    obtain ⟨gr, w1, hmk, hR, hb1, hgr⟩ := mk_row wr L (by omega)
    rw [← fillC_nil] at hR
    have hwb := hB'.kept.size
    have hK1 := hB'.kept.trans (Kept.of_below hb1 fun k => k = gb) fun _ _ h => h
    have hB1 := hB'.bld.below hb1
    have hHi := hide hi
    clear hM' hP' hpre hM hP hT hT' htl
    go_wp2_with fail
    · refine bld_fill hC hl0 hL (List.getElem?_eq_getElem (by omega : i < l0.length)) (List.getElem?_eq_getElem (by omega : j < l0.length)) hK1 hB1 hM2.out hPP.out hR (by omega) hB'.gm_ ?_ ?_
      · repeat (first | exact hN | refine Reg.NoQ.then ?_ | refine Reg.NoQ.inBlock ?_)
      · iterate 30 (intro _)
        intro w2 vl2 l2 row hB2 hM3 hpre2 hP2 hrl hrow hR2 hk2 hmv2
        have hks : Kept wr w2 (fun k => k = gb ∨ k = gm ∨ vl'.ownBlock = some k) := (Kept.of_below hb1 _).trans hk2 (by
          rintro b hb (h1 | h1 | h1 | h1)
          · exact .inl h1
          · exact .inr (.inl h1)
          · omega
          · exact .inr (.inr h1))
        have hB3 := hB'.list hks hB2
        obtain ⟨us, hu⟩ := hB3.tab.open
        have hil : i < t'.length := by rw [hTL.out]; exact hit
        have hul := hu.len
        obtain ⟨r, hri⟩ : ∃ r, t'[i]? = some r := ⟨_, List.getElem?_eq_getElem hil⟩
        obtain ⟨ui, hui⟩ : ∃ ui, us[i]? = some ui := ⟨_, List.getElem?_eq_getElem (by omega)⟩
        obtain ⟨uis, hr1, hr2, hr3⟩ := hu.row i ui r hui hri
        obtain ⟨gv, cap, rfl, hci⟩ := own_get hu.own hui
        obtain ⟨Ai, ci, rfl⟩ := slice_of_own hr2
        have hcm := hB3.mach.cell
        have hMM := hide hM3
        have hPP2 := hide hP2
        have hpp2 := hide hpre2
        have hrr := hide hrow
        have hrl64 : r.length ≤ 64 := by have := (hTT.out i r hri).1; simp [upd] at this; omega
        have hwb2 := hB3.kept.size
        have hHri := hide hri
        have hHui := hide hui
        have hHrl := hide hrl
        have hHul := hide hul
        have hHr1 := hide hr1
        clear hM3 hP2 hpre2 hrow hri hui hrl hul hr1 hcb hmk
        go_wp2_with fail
        refine Reg.region_cut [0, 1, 3, 7, 0, 0, 32, 96, 224, 0, 992, 2016, 0, 4096, 16352, 32767, 65535] [0, 1, 2, 3, 4, 5, 6, 7, 8, 9, 10, 11, 12, 13, 14, 15, 16] (by kernel_rfl) (by repeat (first | exact hN | refine Reg.NoQ.then ?_ | refine Reg.NoQ.inBlock ?_)) ?_
        refine Reg.rest_walk' [0, 1, 2, 3, 4, 5, 6, 7, 8, 9, 10, 11, 12, 13] [14, 15, 16] rfl (by kernel_rfl) ?_
        intro Qf hQf
        go_wp2_with fail
        rw [List.filterMap_nil]
        go_wp2_with fail
        refine Reg.rest_act' 14 [15, 16] [3] rfl (by kernel_rfl) ?_
        intro Qf hQf
        simp only [List.getElem_toArray, List.getElem_cons_succ, List.getElem_cons_zero]
        refine wpList_app_new (w := w2.drew) row104 rfl _ _ rfl wb.heap.size (.slice Ai r.length ci) r.length uis rfl hr2 [.slice (some ⟨gr, 0, none⟩) L L] 1 rfl rfl (by simp [Value.oneCell']) (by omega) hwb2 ?_
        intro g cap' w3 hown hk3 hmv3 hg3
        have hk4 : Kept w2 w3 (fun k => (Value.slice Ai r.length ci).ownBlock = some k) := ⟨hk3.os, hk3.tape, hk3.output, hk3.size, hk3.block⟩
        clear hk3
        have hu4 : TabU (w3.setCell ⟨gv, i, none⟩ (.slice (some ⟨g, 0, none⟩) (r.length + 1) cap')) wb.heap.size (.slice (some ⟨gv, 0, none⟩) t'.length cap) (us.set i (.slice (some ⟨g, 0, none⟩) (r.length + 1) cap')) (t'.set i (r ++ [row])) :=
          hu.add rfl hHui.out hHri.out hHr1.out hr2 hr3 (fillC_full hR2 hHrl.out (by omega) hL) hk4 hown hmv3
        have hm1 : Blk ((w2.alloc (.cells #[.slice (some ⟨gr, 0, none⟩) L L] 22)).drew) gM 82 _ := hB3.mach.kept ((Kept.refl w2 (fun _ => False)).alloc _).drew id
        have hm3 : Blk w3 gM 82 _ := hB3.mach.kept hk4 (fun e => own_blk_ne hr2 hB3.mach (by decide) e)
        have hv3 := own_ty hk4 hu.own (not_blk hr2 (by decide))
        have hcv := own_cell hv3 hHui.out
        have hfv := own_frozen hv3 i
        refine hQf _ _ ⟨?_, ?_⟩
        · intro z hz q hq
          simp only [List.mem_singleton] at hz
          subst hz
          injection hq with hq
          subst hq
          exact Reg.same_load1 rfl rfl (hm1.cell 3) (hm3.cell 3) Try.underlying80 rfl
        · refine Reg.rest_walk' [15, 16] [] rfl (by kernel_rfl) ?_
          clear hQf
          intro Qf hQf
          go_wp2_with fail
          rw [List.filterMap_nil]
          go_wp2_with fail
          refine Reg.rest_end ?_
          go_wp2_with fail
          have hX : ∀ k, ((Value.slice Ai r.length ci).ownBlock = some k ∨ k = gv) → wb.heap.size ≤ k ∧ ∃ t cs, Blk w2 k t cs ∧ t ≠ 138 ∧ 70 ≠ t ∧ t ≠ 3 := by
            rintro k (hk | rfl)
            · obtain ⟨cs, hb⟩ := own_blk hr2 hk
              exact ⟨own_base hr2 hk, 22, cs, hb, by decide, by decide, by decide⟩
            · obtain ⟨cs, hb⟩ := own_blk hu.own (k := k) rfl
              exact ⟨own_base hu.own (k := k) rfl, 104, cs, hb, by decide, by decide, by decide⟩
          have hk5 : Kept w2 (w3.setCell ⟨gv, i, none⟩ (.slice (some ⟨g, 0, none⟩) (r.length + 1) cap')) (fun k => (Value.slice Ai r.length ci).ownBlock = some k ∨ k = gv) := (hk4.mono fun _ _ h => .inl h).setCell (fun _ => .inr rfl) _
          have hm5 := hm3.kept ((Kept.refl w3 (fun k => k = gv)).setCell (p := ⟨gv, i, none⟩) (fun _ => rfl) (.slice (some ⟨g, 0, none⟩) (r.length + 1) cap')) (fun e => own_blk_ne hv3 hm3 (by decide) (by rw [e]; rfl))
          refine ⟨⟨j + 1, l2, vl2, t'.set i (r ++ [row]), by simp, by omega, hB3.table hk5 hX hm5 hu4.close, hMM.out, hpp.out.trans hpp2.out, hPP2.out, ?_, by simp [hTL.out]⟩, by simp [intOf]; omega⟩
          exact (hTT.out.grow hpp2.out).set hHri.out hHrl.out hrr.out
    · have e : j = l0.length := by omega
      subst e
      exact hQ _ _ _ _ _ _ _ _ _ _ _ _ _ _ _ _ _ _ _ _ _ _ _ _ _ _ _ _ _ _ _ _ _ _ _ _ _ _ _ _ _ _ _ _ _ _ _ _ _ _ _ _ _ _ _ _ _ _ _ _ wr vl' l' t' hB' hM2.out hpp.out hPP.out hTT.out hTL.out
end Go.Proofs.Ytnimlcbgeiajiaa

namespace Go.Proofs.Ytnimlcbgeiajiaa
open Go.RowKit

theorem info104 : (Try.prog.info? 104).map (fun i => (i.zero, i.size, i.bytes)) = some (some (.slice none 0 0), 1, 24) := by kernel_rfl
theorem row80 : RowTy Try.prog 80 104 1 := rowTy_of Try.underlying80 info104 rfl (by omega) (by omega)
def lcnt (n n0 i : Nat) : Nat → Nat := fun k => if k < i then n else n0
theorem TabOK.congr {S : Type} {L : Nat} {br : Nat → S → S → S} {l : List S} {c c' : Nat → Nat} {t : List (List (List Nat))} (h : TabOK L br l c t) (hc : ∀ k, k < t.length → c k = c' k) : TabOK L br l c' t := fun i r hr =>
  ⟨(h i r hr).1.trans (hc i (lt_of_get hr)), (h i r hr).2⟩
theorem TabOK.push {S : Type} {L : Nat} {br : Nat → S → S → S} {l : List S} {c : Nat → Nat} {t : List (List (List Nat))} (h : TabOK L br l c t) : TabOK L br l (upd c t.length 0) (t ++ [[]]) := by
  intro k q hq
  by_cases hk : k < t.length
  · rw [List.getElem?_append_left hk] at hq
    have := h k q hq
    have hk2 : k ≠ t.length := by omega
    simpa [upd, hk2] using this
  · have h3 := lt_of_get hq
    simp at h3
    obtain rfl : k = t.length := by omega
    simp at hq
    subst hq
    exact ⟨by simp [upd], fun j row hj => by simp at hj⟩

set_option maxHeartbeats 4000000 in
set_option maxRecDepth 100000 in
theorem bld_lines {wb : World} {gb gm gM L n0 : Nat} {c1 cap4 cap5 cap6 : Value} {leaf : Nat → Nat} {br : Nat → Nat → Nat → Nat} {acc : Nat → Bool} {P : Nat → Prop} (hC : ClosU wb gb L cap4 cap5 cap6 leaf br acc P)
    {l0 : List Nat} (hl0 : l0.length ≤ 64) (hL : L ≤ 8) (hn0 : n0 ≤ l0.length)
    {w : World} {vl vleaf vbr : Value} {l lf : List Nat} {t : List (List (List Nat))} (hB : BWU wb w gb gm gM L c1 cap4 cap5 cap6 vl vleaf vbr l lf t) (hM : Mid L br l0 l) (hP : ∀ s ∈ l, P s)
    (htl : t.length = n0) (hT : TabOK L br l (fun _ => n0) t)
    {u1 u2 u4 u5 u6 u7 u9 u10 u11 u12 u13 u14 u15 u16 u17 u18 u19 u20 u21 u22 u23 u24 u25 u26 u27 u28 u29 u30 u31 u32 u33 u34 u35 u36 u37 u38 u39 u40 u41 u42 u43 u44 u45 u46 u47 u48 u49 u50 u51 u52 u53 u54 u55 u56 u57 u58 u59 u60 u61 u62 u63 u64 u65 u66 u67 u68 u69 u70 u71 u72 u73 u74 u75 u76 u77 u78 u79 u80 u81 u84 u85 u86 u87 u88 u89 u90 u91 u92 u93 u94 u95 u96 u97 u98 u99 u100 u101 u102 u103 u104 u105 u106 u107 u108 u109 u110 u111 u112 u113 u114 u115 u116 u117 u118 u119 u120 u121 u122 u123 u124 u125 u126 u127 u128 u129 u130 u131 u132 u133 u134 u135 u136 u137 u138 u139 u140 u141 u142 u143 u144 u145 u146 u147 u148 u149 u150 u151 u152 u153 u154 u155 u156 u157 u158 u159 u160 u161 u162 u163 u164 u165 u166 u167 u168 u169 u170 u171 u172 u173 u174 u175 u176 u177 u178 u179 u180 u181 u182 u183 u184 u185 u186 u187 u188 u189 u190 u191 u192 u193 u194 u195 u196 : Value}
    {Q : Exit → Act → World → Prop} (hN : Reg.NoQ Q)
    (hQ : ∀ (x9 x10 x11 x12 x83 x84 x85 x86 x87 x88 x89 x90 x91 x92 x93 x94 x95 x96 x97 x98 x99 x100 x101 x102 x103 x104 x105 x106 x107 x108 x109 x110 x111 x112 x113 x114 x115 x116 x117 x118 x119 x120 x121 x122 x123 x124 x125 x126 x127 x128 x129 x130 x131 x132 x133 x134 x135 x136 x137 x138 x139 x140 x141 x142 x143 x144 x145 x146 x147 x148 x149 x150 x151 x152 x153 x154 x155 x156 x157 x158 x159 x160 x161 x162 x163 x164 x165 x166 x167 : Value) (w' : World) (vl' vbr' : Value) (l' : List Nat) (t' : List (List (List Nat))), BWU wb w' gb gm gM L c1 cap4 cap5 cap6 vl' vleaf vbr' l' lf t' → Mid L br l0 l' → l <+: l' → (∀ s ∈ l', P s) →
      TabOK L br l' (fun _ => l0.length) t' → t'.length = l0.length →
      Q (.exit 4) ⟨List.toArray ((.pointer (some ⟨gb, 0, none⟩)) :: u1 :: u2 :: (.pointer (some ⟨gM, 0, none⟩)) :: u4 :: u5 :: u6 :: u7 :: (.int .i64 l0.length) :: x9 :: x10 :: x11 :: x12 :: u13 :: u14 :: u15 :: u16 :: u17 :: u18 :: u19 :: u20 :: u21 :: u22 :: u23 :: u24 :: u25 :: u26 :: u27 :: 
      u28 :: u29 :: u30 :: u31 :: u32 :: u33 :: u34 :: u35 :: u36 :: u37 :: u38 :: u39 :: u40 :: u41 :: u42 :: u43 :: u44 :: u45 :: u46 :: u47 :: u48 :: u49 :: u50 :: u51 :: u52 :: u53 :: u54 :: u55 :: u56 :: u57 :: u58 :: u59 :: u60 :: u61 :: u62 :: u63 :: u64 :: 
      u65 :: u66 :: u67 :: u68 :: u69 :: u70 :: u71 :: u72 :: u73 :: u74 :: u75 :: u76 :: u77 :: u78 :: u79 :: u80 :: u81 :: (.int .i64 l0.length) :: x83 :: x84 :: x85 :: x86 :: x87 :: x88 :: x89 :: x90 :: x91 :: x92 :: x93 :: x94 :: x95 :: x96 :: x97 :: x98 :: x99 :: 
      x100 :: x101 :: x102 :: x103 :: x104 :: x105 :: x106 :: x107 :: x108 :: x109 :: x110 :: x111 :: x112 :: x113 :: x114 :: x115 :: x116 :: x117 :: x118 :: x119 :: x120 :: x121 :: x122 :: x123 :: x124 :: x125 :: x126 :: x127 :: x128 :: x129 :: x130 :: x131 :: x132 :: 
      x133 :: x134 :: x135 :: x136 :: x137 :: x138 :: x139 :: x140 :: x141 :: x142 :: x143 :: x144 :: x145 :: x146 :: x147 :: x148 :: x149 :: x150 :: x151 :: x152 :: x153 :: x154 :: x155 :: x156 :: x157 :: x158 :: x159 :: x160 :: x161 :: x162 :: x163 :: x164 :: x165 :: 
      x166 :: x167 :: u168 :: u169 :: u170 :: u171 :: u172 :: u173 :: u174 :: u175 :: u176 :: u177 :: u178 :: u179 :: u180 :: u181 :: u182 :: u183 :: u184 :: u185 :: u186 :: u187 :: u188 :: u189 :: u190 :: u191 :: u192 :: u193 :: u194 :: u195 :: u196 :: []), []⟩ w') :
    (Code.loop (loopBody Try.f101 2)).wp Try.prog Q ⟨List.toArray ((.pointer (some ⟨gb, 0, none⟩)) :: u1 :: u2 :: (.pointer (some ⟨gM, 0, none⟩)) :: u4 :: u5 :: u6 :: u7 :: (.int .i64 l0.length) :: u9 :: u10 :: u11 :: u12 :: u13 :: u14 :: u15 :: u16 :: u17 :: u18 :: u19 :: u20 :: u21 :: u22 :: u23 :: u24 :: u25 :: u26 :: u27 :: 
      u28 :: u29 :: u30 :: u31 :: u32 :: u33 :: u34 :: u35 :: u36 :: u37 :: u38 :: u39 :: u40 :: u41 :: u42 :: u43 :: u44 :: u45 :: u46 :: u47 :: u48 :: u49 :: u50 :: u51 :: u52 :: u53 :: u54 :: u55 :: u56 :: u57 :: u58 :: u59 :: u60 :: u61 :: u62 :: u63 :: u64 :: 
      u65 :: u66 :: u67 :: u68 :: u69 :: u70 :: u71 :: u72 :: u73 :: u74 :: u75 :: u76 :: u77 :: u78 :: u79 :: u80 :: u81 :: (.int .i64 l0.length) :: (.int .i64 0) :: u84 :: u85 :: u86 :: u87 :: u88 :: u89 :: u90 :: u91 :: u92 :: u93 :: u94 :: u95 :: u96 :: u97 :: 
      u98 :: u99 :: u100 :: u101 :: u102 :: u103 :: u104 :: u105 :: u106 :: u107 :: u108 :: u109 :: u110 :: u111 :: u112 :: u113 :: u114 :: u115 :: u116 :: u117 :: u118 :: u119 :: u120 :: u121 :: u122 :: u123 :: u124 :: u125 :: u126 :: u127 :: u128 :: u129 :: u130 :: 
      u131 :: u132 :: u133 :: u134 :: u135 :: u136 :: u137 :: u138 :: u139 :: u140 :: u141 :: u142 :: u143 :: u144 :: u145 :: u146 :: u147 :: u148 :: u149 :: u150 :: u151 :: u152 :: u153 :: u154 :: u155 :: u156 :: u157 :: u158 :: u159 :: u160 :: u161 :: u162 :: u163 :: 
      u164 :: u165 :: u166 :: u167 :: u168 :: u169 :: u170 :: u171 :: u172 :: u173 :: u174 :: u175 :: u176 :: u177 :: u178 :: u179 :: u180 :: u181 :: u182 :: u183 :: u184 :: u185 :: u186 :: u187 :: u188 :: u189 :: u190 :: u191 :: u192 :: u193 :: u194 :: u195 :: u196 :: 
      []), []⟩ w := by
  conv => arg 2; arg 1; whnf
  go_loopw [83] (fun ii wr => ∃ (i : Nat) (l' : List Nat) (vl' vbr' : Value) (t' : List (List (List Nat))), ii = .int .i64 (i : Int) ∧ i ≤ l0.length ∧ BWU wb wr gb gm gM L c1 cap4 cap5 cap6 vl' vleaf vbr' l' lf t' ∧ Mid L br l0 l' ∧ l <+: l' ∧ (∀ s ∈ l', P s) ∧
    TabOK L br l' (lcnt l0.length n0 i) t' ∧ t'.length = max n0 i) (fun ii _ => l0.length - (intOf ii).toNat)
  case atStart => exact ⟨0, l, vl, vbr, t, rfl, Nat.zero_le _, hB, hM, List.prefix_refl _, hP, hT.congr (fun k _ => by simp [lcnt]), by omega⟩
  case round =>
    obtain ⟨i, l', vl', vbr', t', rfl, hi, hB', hM', hpre, hP', hT', htl'⟩ := hrel
    obtain ⟨us, hu⟩ := hB'.tab.open
    obtain ⟨A, c, rfl⟩ := slice_of_own hu.own
    have hcm := hB'.mach.cell
    have hM2 := hide hM'
    have hPP := hide hP'
    have hpp := hide hpre
    have hTT := hide hT'
    have hTL := hide htl'
    clear hM' hP' hpre hM hP hT hT' htl'
    have hwb := hB'.kept.size
    by_cases hlt : i < t'.length
    · have hul := hu.len
      obtain ⟨r, hri⟩ : ∃ r, t'[i]? = some r := ⟨_, List.getElem?_eq_getElem hlt⟩
      obtain ⟨ui, hui⟩ : ∃ ui, us[i]? = some ui := ⟨_, List.getElem?_eq_getElem (by omega)⟩
      obtain ⟨uis, hr1, hr2, hr3⟩ := hu.row i ui r hui hri
      obtain ⟨gv, cap, hvb, hci⟩ := own_get hu.own hui
      injection hvb with e1 e2 e3
      subst e1 e3
      obtain ⟨Ai, ci, rfl⟩ := slice_of_own hr2
      have hrn : r.length = lcnt l0.length n0 i i := (hTT.out i r hri).1
      have hrl : r.length ≤ l0.length := by rw [hrn]; unfold lcnt; split <;> omega
      have hHrn := hide hrn
      have hHri := hide hri
      clear hui hr1 hri hrn hul e2
      go_wp2_with fail
      · refine bld_rows hC hl0 hL (by omega) hrl hB' hM2.out hPP.out hHrn.out.symm hlt hTT.out ?_ ?_
        · repeat (first | exact hN | refine Reg.NoQ.then ?_ | refine Reg.NoQ.inBlock ?_)
        · iterate 60 (intro _)
          intro w2 vl2 l2 t2 hB2 hM3 hpre2 hP2 hT2 htl2
          have hMM := hide hM3
          have hPP2 := hide hP2
          have hpp2 := hide hpre2
          have hTT2 := hide hT2
          have hTL2 := hide htl2
          clear hM3 hP2 hpre2 hT2 htl2
          go_wp2_with fail
          refine ⟨⟨i + 1, l2, vl2, _, t2, by simp, by omega, hB2, hMM.out, hpp.out.trans hpp2.out, hPP2.out, ?_, by rw [hTL2.out]; have := hTL.out; omega⟩, by simp [intOf]; omega⟩
          refine hTT2.out.congr fun k _ => ?_
          simp only [upd, lcnt]
          (repeat' split) <;> omega
      · have e : i = l0.length := by omega
        subst e
        exact hQ _ _ _ _ _ _ _ _ _ _ _ _ _ _ _ _ _ _ _ _ _ _ _ _ _ _ _ _ _ _ _ _ _ _ _ _ _ _ _ _ _ _ _ _ _ _ _ _ _ _ _ _ _ _ _ _ _ _ _ _ _ _ _ _ _ _ _ _ _ _ _ _ _ _ _ _ _ _ _ _ _ _ _ _ _ _ _ _ _ wr vl' _ l' t' hB' hM2.out hpp.out hPP.out (hTT.out.congr fun k hk => by have := hTL.out; simp [lcnt]; omega) (by have := hTL.out; omega)
    · have hti : t'.length = i := by have := hTL.out; omega
      subst hti
      go_wp2_with (at_builtin; refine wpList_app_new row80 rfl _ _ rfl wb.heap.size (.slice A t'.length c) t'.length us rfl hu.own [.slice none 0 0] 1 rfl rfl (by simp [Value.oneCell']) (by omega) hwb ?_; intro g cap' w3 hown hk3 hmv3 hg3; have hm3 := hB'.mach.kept hk3 (fun e => own_blk_ne hu.own hB'.mach (by decide) e); have hcm3 := hm3.cell; have hfm3 := hm3.frozen; have hcg : ∀ u, (w3.setCell ⟨gM, 3, none⟩ u).cell? ⟨g, t'.length, none⟩ = some (.slice none 0 0) := fun u => own_cell (own_ty ((Kept.refl w3 (fun k => k = gM)).setCell (p := ⟨gM, 3, none⟩) (fun _ => rfl) u) hown (fun k cs e hb => by subst e; exact hm3.ne_ hb (by decide) rfl)) (by rw [← hu.len]; simp))
      · have hu3 := hu.push hk3 hown
        have hks := (Kept.refl w3 (fun k => k = gM)).setCell (p := ⟨gM, 3, none⟩) (fun _ => rfl) (.slice (some ⟨g, 0, none⟩) (t'.length + 1) cap')
        have hg82 : ∀ (e : TypeId), e ≠ 82 → ∀ k cs, k = gM → ¬ Blk w3 k e cs := fun e he k cs ek hb => by subst ek; exact hm3.ne_ hb (fun h => he h.symm) rfl
        have hu4 := hu3.keep hks (hg82 3 (by decide)) (hg82 22 (by decide)) (fun k hk ek => hg82 104 (by decide) k _ ek (own_blk hown hk).choose_spec)
        have hX : ∀ k, ((Value.slice A t'.length c).ownBlock = some k ∨ k = gM) → wb.heap.size ≤ k ∧ ∃ t cs, Blk wr k t cs ∧ t ≠ 138 ∧ 70 ≠ t ∧ t ≠ 3 := by
          rintro k (hk | rfl)
          · obtain ⟨cs, hb⟩ := own_blk hu.own hk
            exact ⟨own_base hu.own hk, 104, cs, hb, by decide, by decide, by decide⟩
          · exact ⟨hB'.gM_, 82, _, hB'.mach, by decide, by decide, by decide⟩
        have hk5 := (hk3.mono (Y := fun k => (Value.slice A t'.length c).ownBlock = some k ∨ k = gM) fun _ _ h => .inl h).setCell (p := ⟨gM, 3, none⟩) (fun _ => .inr rfl) (.slice (some ⟨g, 0, none⟩) (t'.length + 1) cap')
        have hB4 := hB'.table hk5 hX (hm3.set_ 3 _) hu4.close
        refine bld_rows (j0 := 0) hC hl0 hL (by omega) (Nat.zero_le _) hB4 hM2.out hPP.out (cnt := upd (lcnt l0.length n0 t'.length) t'.length 0) (by simp [upd]) (by simp) hTT.out.push ?_ ?_
        · repeat (first | exact hN | refine Reg.NoQ.then ?_ | refine Reg.NoQ.inBlock ?_)
        · iterate 60 (intro _)
          intro w2 vl2 l2 t2 hB2 hM3 hpre2 hP2 hT2 htl2
          have hMM := hide hM3
          have hPP2 := hide hP2
          have hpp2 := hide hpre2
          have hTT2 := hide hT2
          have hTL2 := hide htl2
          clear hM3 hP2 hpre2 hT2 htl2
          go_wp2_with fail
          refine ⟨⟨t'.length + 1, l2, vl2, _, t2, by simp, by omega, hB2, hMM.out, hpp.out.trans hpp2.out, hPP2.out, ?_, by rw [hTL2.out]; have := hTL.out; simp; omega⟩, by simp [intOf]; omega⟩
          refine hTT2.out.congr fun k _ => ?_
          simp only [upd, lcnt]
          (repeat' split) <;> omega
      · have e : t'.length = l0.length := by omega
        exact hQ _ _ _ _ _ _ _ _ _ _ _ _ _ _ _ _ _ _ _ _ _ _ _ _ _ _ _ _ _ _ _ _ _ _ _ _ _ _ _ _ _ _ _ _ _ _ _ _ _ _ _ _ _ _ _ _ _ _ _ _ _ _ _ _ _ _ _ _ _ _ _ _ _ _ _ _ _ _ _ _ _ _ _ _ _ _ _ _ _ wr vl' _ l' t' hB' hM2.out hpp.out hPP.out (hTT.out.congr fun k hk => by have := hTL.out; simp [lcnt]; omega) e
end Go.Proofs.Ytnimlcbgeiajiaa

namespace Go.Proofs.Ytnimlcbgeiajiaa
open Go.RowKit

/-- What leaves and branches give. -/
inductive Reach {S : Type} (L : Nat) (leaf : Nat → S) (br : Nat → S → S → S) : S → Prop
  | leaf (x : Nat) : x < L → Reach L leaf br (leaf x)
  | br (x : Nat) (a b : S) : x < L → Reach L leaf br a → Reach L leaf br b → Reach L leaf br (br x a b)

theorem Mid.reach {S : Type} [DecidableEq S] {L : Nat} {leaf : Nat → S} {br : Nat → S → S → S} {l0 l : List S} (h : Mid L br l0 l) (h0 : ∀ s ∈ l0, Reach L leaf br s) : ∀ s ∈ l, Reach L leaf br s := fun s hs => by
  rcases h.from_ s hs with h1 | ⟨x, a, b, hx, ha, hb, rfl⟩
  · exact h0 s h1
  · exact .br x a b hx (h0 a ha) (h0 b hb)

theorem BWU.drew {wb w : World} {gb gm gM L : Nat} {c1 cap4 cap5 cap6 vl vleaf vbr : Value} {l lf : List Nat} {t : List (List (List Nat))} (h : BWU wb w gb gm gM L c1 cap4 cap5 cap6 vl vleaf vbr l lf t) : BWU wb w.drew gb gm gM L c1 cap4 cap5 cap6 vl vleaf vbr l lf t :=
  h.below ⟨rfl, rfl, rfl, Nat.le_refl _, fun _ _ => rfl⟩

set_option maxHeartbeats 4000000 in
set_option maxRecDepth 100000 in
theorem bld_rounds {wb : World} {gb gm gM L : Nat} {cap4 cap5 cap6 : Value} {leaf : Nat → Nat} {br : Nat → Nat → Nat → Nat} {acc : Nat → Bool} {P : Nat → Prop} (hC : ClosU wb gb L cap4 cap5 cap6 leaf br acc P)
    (hL : L ≤ 8)
    {w : World} {vl vleaf : Value} {l lf : List Nat} (hB : BWU wb w gb gm gM L (.int .i64 64) cap4 cap5 cap6 vl vleaf (.slice none 0 0) l lf []) (hn : l.Nodup) (hR : ∀ s ∈ l, Reach L leaf br s) (hP : ∀ s ∈ l, P s) (hl : l.length ≤ 33000)
    {u1 u2 u4 u5 u7 u8 u9 u10 u11 u12 u13 u14 u15 u16 u17 u18 u19 u20 u21 u22 u23 u24 u25 u26 u27 u28 u29 u30 u31 u32 u33 u34 u35 u36 u37 u38 u39 u40 u41 u42 u43 u44 u45 u46 u47 u48 u49 u50 u51 u52 u53 u54 u55 u56 u57 u58 u59 u60 u61 u62 u63 u64 u65 u66 u67 u68 u69 u70 u71 u72 u73 u74 u75 u76 u77 u78 u79 u80 u81 u82 u83 u84 u85 u86 u87 u88 u89 u90 u91 u92 u93 u94 u95 u96 u97 u98 u99 u100 u101 u102 u103 u104 u105 u106 u107 u108 u109 u110 u111 u112 u113 u114 u115 u116 u117 u118 u119 u120 u121 u122 u123 u124 u125 u126 u127 u128 u129 u130 u131 u132 u133 u134 u135 u136 u137 u138 u139 u140 u141 u142 u143 u144 u145 u146 u147 u148 u149 u150 u151 u152 u153 u154 u155 u156 u157 u158 u159 u160 u161 u162 u163 u164 u165 u166 u167 u168 u169 u170 u171 u172 u173 u174 u175 u176 u177 u178 u179 u180 u181 u182 u183 u184 u185 u186 u187 u188 u189 u190 u191 u192 u193 u194 u195 u196 : Value}
    {Q : Exit → Act → World → Prop} (hN : Reg.NoQ Q)
    (hQ : ∀ (x2 x6 x7 x8 x9 x10 x11 x12 x51 x52 x53 x54 x55 x56 x57 x58 x59 x60 x61 x62 x63 x64 x65 x66 x67 x68 x69 x70 x71 x72 x73 x74 x75 x76 x77 x78 x79 x80 x81 x82 x83 x84 x85 x86 x87 x88 x89 x90 x91 x92 x93 x94 x95 x96 x97 x98 x99 x100 x101 x102 x103 x104 x105 x106 x107 x108 x109 x110 x111 x112 x113 x114 x115 x116 x117 x118 x119 x120 x121 x122 x123 x124 x125 x126 x127 x128 x129 x130 x131 x132 x133 x134 x135 x136 x137 x138 x139 x140 x141 x142 x143 x144 x145 x146 x147 x148 x149 x150 x151 x152 x153 x154 x155 x156 x157 x158 x159 x160 x161 x162 x163 x164 x165 x166 x167 x168 x169 x170 : Value) (w' : World) (vl' vbr' : Value) (l' : List Nat) (t' : List (List (List Nat))), BWU wb w' gb gm gM L (.int .i64 64) cap4 cap5 cap6 vl' vleaf vbr' l' lf t' → l <+: l' → l'.Nodup → (∀ s ∈ l', Reach L leaf br s) → (∀ s ∈ l', P s) →
      TabOK L br l' (fun _ => l'.length) t' → t'.length = l'.length → l'.length ≤ 64 →
      Q (.exit 2) ⟨List.toArray ((.pointer (some ⟨gb, 0, none⟩)) :: u1 :: x2 :: (.pointer (some ⟨gM, 0, none⟩)) :: u4 :: u5 :: x6 :: x7 :: x8 :: x9 :: x10 :: x11 :: x12 :: u13 :: u14 :: u15 :: u16 :: u17 :: u18 :: u19 :: u20 :: u21 :: u22 :: u23 :: u24 :: u25 :: u26 :: u27 :: u28 :: u29 :: 
      u30 :: u31 :: u32 :: u33 :: u34 :: u35 :: u36 :: u37 :: u38 :: u39 :: u40 :: u41 :: u42 :: u43 :: u44 :: u45 :: u46 :: u47 :: u48 :: u49 :: u50 :: x51 :: x52 :: x53 :: x54 :: x55 :: x56 :: x57 :: x58 :: x59 :: x60 :: x61 :: x62 :: x63 :: x64 :: x65 :: x66 :: 
      x67 :: x68 :: x69 :: x70 :: x71 :: x72 :: x73 :: x74 :: x75 :: x76 :: x77 :: x78 :: x79 :: x80 :: x81 :: x82 :: x83 :: x84 :: x85 :: x86 :: x87 :: x88 :: x89 :: x90 :: x91 :: x92 :: x93 :: x94 :: x95 :: x96 :: x97 :: x98 :: x99 :: x100 :: x101 :: x102 :: x103 :: 
      x104 :: x105 :: x106 :: x107 :: x108 :: x109 :: x110 :: x111 :: x112 :: x113 :: x114 :: x115 :: x116 :: x117 :: x118 :: x119 :: x120 :: x121 :: x122 :: x123 :: x124 :: x125 :: x126 :: x127 :: x128 :: x129 :: x130 :: x131 :: x132 :: x133 :: x134 :: x135 :: x136 :: 
      x137 :: x138 :: x139 :: x140 :: x141 :: x142 :: x143 :: x144 :: x145 :: x146 :: x147 :: x148 :: x149 :: x150 :: x151 :: x152 :: x153 :: x154 :: x155 :: x156 :: x157 :: x158 :: x159 :: x160 :: x161 :: x162 :: x163 :: x164 :: x165 :: x166 :: x167 :: x168 :: x169 :: 
      x170 :: u171 :: u172 :: u173 :: u174 :: u175 :: u176 :: u177 :: u178 :: u179 :: u180 :: u181 :: u182 :: u183 :: u184 :: u185 :: u186 :: u187 :: u188 :: u189 :: u190 :: u191 :: u192 :: u193 :: u194 :: u195 :: u196 :: []), []⟩ w')
    (hQr : ∀ (x6 x7 x8 x9 x10 x11 x12 x51 x52 x53 x54 x55 x56 x57 x58 x59 x60 x61 x62 x63 x64 x65 x66 x67 x68 x69 x70 x71 x72 x73 x74 x75 x76 x77 x78 x79 x80 x81 x82 x83 x84 x85 x86 x87 x88 x89 x90 x91 x92 x93 x94 x95 x96 x97 x98 x99 x100 x101 x102 x103 x104 x105 x106 x107 x108 x109 x110 x111 x112 x113 x114 x115 x116 x117 x118 x119 x120 x121 x122 x123 x124 x125 x126 x127 x128 x129 x130 x131 x132 x133 x134 x135 x136 x137 x138 x139 x140 x141 x142 x143 x144 x145 x146 x147 x148 x149 x150 x151 x152 x153 x154 x155 x156 x157 x158 x159 x160 x161 x162 x163 x164 x165 x166 x167 x168 x169 x170 : Value) (w' : World) (vl' vbr' : Value) (l' : List Nat) (t' : List (List (List Nat))), BWU wb w' gb gm gM L (.int .i64 64) cap4 cap5 cap6 vl' vleaf vbr' l' lf t' → l'.Nodup → (∀ s ∈ l', Reach L leaf br s) → 64 < l'.length →
      Q .ret ⟨List.toArray ((.pointer (some ⟨gb, 0, none⟩)) :: u1 :: (.pointer none) :: (.pointer (some ⟨gM, 0, none⟩)) :: u4 :: u5 :: x6 :: x7 :: x8 :: x9 :: x10 :: x11 :: x12 :: u13 :: u14 :: u15 :: u16 :: u17 :: u18 :: u19 :: u20 :: u21 :: u22 :: u23 :: u24 :: u25 :: u26 :: u27 :: u28 :: 
      u29 :: u30 :: u31 :: u32 :: u33 :: u34 :: u35 :: u36 :: u37 :: u38 :: u39 :: u40 :: u41 :: u42 :: u43 :: u44 :: u45 :: u46 :: u47 :: u48 :: u49 :: u50 :: x51 :: x52 :: x53 :: x54 :: x55 :: x56 :: x57 :: x58 :: x59 :: x60 :: x61 :: x62 :: x63 :: x64 :: x65 :: 
      x66 :: x67 :: x68 :: x69 :: x70 :: x71 :: x72 :: x73 :: x74 :: x75 :: x76 :: x77 :: x78 :: x79 :: x80 :: x81 :: x82 :: x83 :: x84 :: x85 :: x86 :: x87 :: x88 :: x89 :: x90 :: x91 :: x92 :: x93 :: x94 :: x95 :: x96 :: x97 :: x98 :: x99 :: x100 :: x101 :: x102 :: 
      x103 :: x104 :: x105 :: x106 :: x107 :: x108 :: x109 :: x110 :: x111 :: x112 :: x113 :: x114 :: x115 :: x116 :: x117 :: x118 :: x119 :: x120 :: x121 :: x122 :: x123 :: x124 :: x125 :: x126 :: x127 :: x128 :: x129 :: x130 :: x131 :: x132 :: x133 :: x134 :: x135 :: 
      x136 :: x137 :: x138 :: x139 :: x140 :: x141 :: x142 :: x143 :: x144 :: x145 :: x146 :: x147 :: x148 :: x149 :: x150 :: x151 :: x152 :: x153 :: x154 :: x155 :: x156 :: x157 :: x158 :: x159 :: x160 :: x161 :: x162 :: x163 :: x164 :: x165 :: x166 :: x167 :: x168 :: 
      x169 :: x170 :: u171 :: u172 :: u173 :: u174 :: u175 :: u176 :: u177 :: u178 :: u179 :: u180 :: u181 :: u182 :: u183 :: u184 :: u185 :: u186 :: u187 :: u188 :: u189 :: u190 :: u191 :: u192 :: u193 :: u194 :: u195 :: u196 :: []), []⟩ w') :
    (Code.loop (loopBody Try.f101 1)).wp Try.prog Q ⟨List.toArray ((.pointer (some ⟨gb, 0, none⟩)) :: u1 :: u2 :: (.pointer (some ⟨gM, 0, none⟩)) :: u4 :: u5 :: (.int .i64 0) :: u7 :: u8 :: u9 :: u10 :: u11 :: u12 :: u13 :: u14 :: u15 :: u16 :: u17 :: u18 :: u19 :: u20 :: u21 :: u22 :: u23 :: u24 :: u25 :: u26 :: u27 :: u28 :: 
      u29 :: u30 :: u31 :: u32 :: u33 :: u34 :: u35 :: u36 :: u37 :: u38 :: u39 :: u40 :: u41 :: u42 :: u43 :: u44 :: u45 :: u46 :: u47 :: u48 :: u49 :: u50 :: u51 :: u52 :: u53 :: u54 :: u55 :: u56 :: u57 :: u58 :: u59 :: u60 :: u61 :: u62 :: u63 :: u64 :: u65 :: 
      u66 :: u67 :: u68 :: u69 :: u70 :: u71 :: u72 :: u73 :: u74 :: u75 :: u76 :: u77 :: u78 :: u79 :: u80 :: u81 :: u82 :: u83 :: u84 :: u85 :: u86 :: u87 :: u88 :: u89 :: u90 :: u91 :: u92 :: u93 :: u94 :: u95 :: u96 :: u97 :: u98 :: u99 :: u100 :: u101 :: u102 :: 
      u103 :: u104 :: u105 :: u106 :: u107 :: u108 :: u109 :: u110 :: u111 :: u112 :: u113 :: u114 :: u115 :: u116 :: u117 :: u118 :: u119 :: u120 :: u121 :: u122 :: u123 :: u124 :: u125 :: u126 :: u127 :: u128 :: u129 :: u130 :: u131 :: u132 :: u133 :: u134 :: u135 :: 
      u136 :: u137 :: u138 :: u139 :: u140 :: u141 :: u142 :: u143 :: u144 :: u145 :: u146 :: u147 :: u148 :: u149 :: u150 :: u151 :: u152 :: u153 :: u154 :: u155 :: u156 :: u157 :: u158 :: u159 :: u160 :: u161 :: u162 :: u163 :: u164 :: u165 :: u166 :: u167 :: u168 :: 
      u169 :: u170 :: u171 :: u172 :: u173 :: u174 :: u175 :: u176 :: u177 :: u178 :: u179 :: u180 :: u181 :: u182 :: u183 :: u184 :: u185 :: u186 :: u187 :: u188 :: u189 :: u190 :: u191 :: u192 :: u193 :: u194 :: u195 :: u196 :: []), []⟩ w := by
  conv => arg 2; arg 1; whnf
  go_loopw [6] (fun kk wr => ∃ (k : Nat) (l' : List Nat) (vl' vbr' : Value) (t' : List (List (List Nat))), kk = .int .i64 (k : Int) ∧ k ≤ 64 ∧ k ≤ l'.length ∧ l'.length ≤ 33000 ∧ BWU wb wr gb gm gM L (.int .i64 64) cap4 cap5 cap6 vl' vleaf vbr' l' lf t' ∧ l <+: l' ∧ l'.Nodup ∧ (∀ s ∈ l', Reach L leaf br s) ∧ (∀ s ∈ l', P s) ∧
    TabOK L br l' (fun _ => k) t' ∧ t'.length = k) (fun kk _ => 60000 - (intOf kk).toNat)
  case atStart => exact ⟨0, l, vl, _, [], rfl, by omega, by omega, hl, hB, List.prefix_refl _, hn, hR, hP, fun i r h => by simp at h, rfl⟩
  case round =>
    obtain ⟨k, l', vl', vbr', t', rfl, hk64, hkl, hl', hB', hpre, hn', hR', hP', hT', htl'⟩ := hrel
    obtain ⟨A, c, rfl⟩ := slice_of_own hB'.bld.row
    have hcb := hB'.bld.blk.cell
    have hNN := hide hn'
    have hRR := hide hR'
    have hPP := hide hP'
    have hpp := hide hpre
    have hTT := hide hT'
    have hTL := hide htl'
    clear hn' hR' hP' hpre hT' htl' hR hP hn
    go_wp2_with fail
    · refine Reg.region_plain [0, 1, 3, 7, 15, 31, 63, 127, 255, 511, 1023, 63, 2111, 6207, 14399, 32767, 65535] (by kernel_rfl) (by repeat (first | exact hN | refine Reg.NoQ.then ?_ | refine Reg.NoQ.inBlock ?_)) ?_
      go_wp2_with fail
      · exact hQr _ _ _ _ _ _ _ _ _ _ _ _ _ _ _ _ _ _ _ _ _ _ _ _ _ _ _ _ _ _ _ _ _ _ _ _ _ _ _ _ _ _ _ _ _ _ _ _ _ _ _ _ _ _ _ _ _ _ _ _ _ _ _ _ _ _ _ _ _ _ _ _ _ _ _ _ _ _ _ _ _ _ _ _ _ _ _ _ _ _ _ _ _ _ _ _ _ _ _ _ _ _ _ _ _ _ _ _ _ _ _ _ _ _ _ _ _ _ _ _ _ _ _ _ _ _ _ wr.drew _ _ l' t' hB'.drew hNN.out hRR.out (by omega)
      · refine Reg.region_plain [0, 0, 2, 6, 14, 30, 1, 127] (by kernel_rfl) (by repeat (first | exact hN | refine Reg.NoQ.then ?_ | refine Reg.NoQ.inBlock ?_)) ?_
        go_wp2_with fail
        refine bld_lines (n0 := k) (l0 := l') hC (by omega) hL hkl hB'.drew.drew (Mid.refl hNN.out) hPP.out hTL.out hTT.out ?_ ?_
        · repeat (first | exact hN | refine Reg.NoQ.then ?_ | refine Reg.NoQ.inBlock ?_)
        · iterate 89 (intro _)
          intro w2 vl2 vbr2 l2 t2 hB2 hM3 hpre2 hP2 hT2 htl2
          have hMM := hide hM3
          have hPP2 := hide hP2
          have hpp2 := hide hpre2
          have hTT2 := hide hT2
          have hTL2 := hide htl2
          clear hM3 hP2 hpre2 hT2 htl2
          go_wp2_with fail
          have hle := hMM.out.len (by omega) hL
          exact ⟨⟨l'.length, l2, vl2, _, t2, rfl, by omega, hpp2.out.length_le, hle, hB2, hpp.out.trans hpp2.out, hMM.out.nodup, hMM.out.reach hRR.out, hPP2.out, hTT2.out, hTL2.out⟩, by simp [intOf]; omega⟩
    · obtain rfl : k = l'.length := by omega
      exact hQ _ _ _ _ _ _ _ _ _ _ _ _ _ _ _ _ _ _ _ _ _ _ _ _ _ _ _ _ _ _ _ _ _ _ _ _ _ _ _ _ _ _ _ _ _ _ _ _ _ _ _ _ _ _ _ _ _ _ _ _ _ _ _ _ _ _ _ _ _ _ _ _ _ _ _ _ _ _ _ _ _ _ _ _ _ _ _ _ _ _ _ _ _ _ _ _ _ _ _ _ _ _ _ _ _ _ _ _ _ _ _ _ _ _ _ _ _ _ _ _ _ _ _ _ _ _ _ _ wr _ _ l' t' hB' hpp.out hNN.out hRR.out hPP.out hTT.out hTL.out hk64
end Go.Proofs.Ytnimlcbgeiajiaa

namespace Go.Proofs.Ytnimlcbgeiajiaa
open Go.RowKit

theorem row22 : RowTy Try.prog 22 3 1 := rowTy_of Try.underlying22 info3 rfl (by omega) (by omega)

set_option maxHeartbeats 4000000 in
set_option maxRecDepth 100000 in
theorem bld_leaves {wb : World} {gb gm gM L : Nat} {c1 cap4 cap5 cap6 : Value} {leaf : Nat → Nat} {br : Nat → Nat → Nat → Nat} {acc : Nat → Bool} {P : Nat → Prop} (hC : ClosU wb gb L cap4 cap5 cap6 leaf br acc P)
    (hL : L ≤ 8)
    {w : World} (hB : BWU wb w gb gm gM L c1 cap4 cap5 cap6 (.slice none 0 0) (.slice none 0 0) (.slice none 0 0) [] [] [])
    {u1 u2 u4 u5 u6 u7 u8 u9 u10 u11 u12 u13 u14 u15 u16 u17 u18 u19 u20 u21 u22 u23 u24 u25 u26 u27 u30 u31 u32 u33 u34 u35 u36 u37 u38 u39 u40 u41 u42 u43 u44 u45 u46 u47 u48 u49 u50 u51 u52 u53 u54 u55 u56 u57 u58 u59 u60 u61 u62 u63 u64 u65 u66 u67 u68 u69 u70 u71 u72 u73 u74 u75 u76 u77 u78 u79 u80 u81 u82 u83 u84 u85 u86 u87 u88 u89 u90 u91 u92 u93 u94 u95 u96 u97 u98 u99 u100 u101 u102 u103 u104 u105 u106 u107 u108 u109 u110 u111 u112 u113 u114 u115 u116 u117 u118 u119 u120 u121 u122 u123 u124 u125 u126 u127 u128 u129 u130 u131 u132 u133 u134 u135 u136 u137 u138 u139 u140 u141 u142 u143 u144 u145 u146 u147 u148 u149 u150 u151 u152 u153 u154 u155 u156 u157 u158 u159 u160 u161 u162 u163 u164 u165 u166 u167 u168 u169 u170 u171 u172 u173 u174 u175 u176 u177 u178 u179 u180 u181 u182 u183 u184 u185 u186 u187 u188 u189 u190 u191 u192 u193 u194 u195 u196 : Value}
    {Q : Exit → Act → World → Prop} (_ : Reg.NoQ Q)
    (hQ : ∀ (x4 x5 x29 x30 x31 x32 x33 x34 x35 x36 x37 x38 x39 x40 x41 x42 x43 x44 x45 x46 x47 x48 x49 x50 : Value) (w' : World) (vl' vleaf' : Value) (l' lf' : List Nat), BWU wb w' gb gm gM L c1 cap4 cap5 cap6 vl' vleaf' (.slice none 0 0) l' lf' [] → l'.Nodup → (∀ s ∈ l', Reach L leaf br s) → (∀ s ∈ l', P s) →
      l'.length ≤ L → lf'.length = L → LeafOK leaf l' lf' →
      Q (.exit 0) ⟨List.toArray ((.pointer (some ⟨gb, 0, none⟩)) :: u1 :: u2 :: (.pointer (some ⟨gM, 0, none⟩)) :: x4 :: x5 :: u6 :: u7 :: u8 :: u9 :: u10 :: u11 :: u12 :: u13 :: u14 :: u15 :: u16 :: u17 :: u18 :: u19 :: u20 :: u21 :: u22 :: u23 :: u24 :: u25 :: u26 :: u27 :: (.int .i64 L) :: 
      x29 :: x30 :: x31 :: x32 :: x33 :: x34 :: x35 :: x36 :: x37 :: x38 :: x39 :: x40 :: x41 :: x42 :: x43 :: x44 :: x45 :: x46 :: x47 :: x48 :: x49 :: x50 :: u51 :: u52 :: u53 :: u54 :: u55 :: u56 :: u57 :: u58 :: u59 :: u60 :: u61 :: u62 :: u63 :: u64 :: u65 :: 
      u66 :: u67 :: u68 :: u69 :: u70 :: u71 :: u72 :: u73 :: u74 :: u75 :: u76 :: u77 :: u78 :: u79 :: u80 :: u81 :: u82 :: u83 :: u84 :: u85 :: u86 :: u87 :: u88 :: u89 :: u90 :: u91 :: u92 :: u93 :: u94 :: u95 :: u96 :: u97 :: u98 :: u99 :: u100 :: u101 :: u102 :: 
      u103 :: u104 :: u105 :: u106 :: u107 :: u108 :: u109 :: u110 :: u111 :: u112 :: u113 :: u114 :: u115 :: u116 :: u117 :: u118 :: u119 :: u120 :: u121 :: u122 :: u123 :: u124 :: u125 :: u126 :: u127 :: u128 :: u129 :: u130 :: u131 :: u132 :: u133 :: u134 :: u135 :: 
      u136 :: u137 :: u138 :: u139 :: u140 :: u141 :: u142 :: u143 :: u144 :: u145 :: u146 :: u147 :: u148 :: u149 :: u150 :: u151 :: u152 :: u153 :: u154 :: u155 :: u156 :: u157 :: u158 :: u159 :: u160 :: u161 :: u162 :: u163 :: u164 :: u165 :: u166 :: u167 :: u168 :: 
      u169 :: u170 :: u171 :: u172 :: u173 :: u174 :: u175 :: u176 :: u177 :: u178 :: u179 :: u180 :: u181 :: u182 :: u183 :: u184 :: u185 :: u186 :: u187 :: u188 :: u189 :: u190 :: u191 :: u192 :: u193 :: u194 :: u195 :: u196 :: []), []⟩ w') :
    (Code.loop (loopBody Try.f101 0)).wp Try.prog Q ⟨List.toArray ((.pointer (some ⟨gb, 0, none⟩)) :: u1 :: u2 :: (.pointer (some ⟨gM, 0, none⟩)) :: u4 :: u5 :: u6 :: u7 :: u8 :: u9 :: u10 :: u11 :: u12 :: u13 :: u14 :: u15 :: u16 :: u17 :: u18 :: u19 :: u20 :: u21 :: u22 :: u23 :: u24 :: u25 :: u26 :: u27 :: (.int .i64 L) :: 
      (.int .i64 0) :: u30 :: u31 :: u32 :: u33 :: u34 :: u35 :: u36 :: u37 :: u38 :: u39 :: u40 :: u41 :: u42 :: u43 :: u44 :: u45 :: u46 :: u47 :: u48 :: u49 :: u50 :: u51 :: u52 :: u53 :: u54 :: u55 :: u56 :: u57 :: u58 :: u59 :: u60 :: u61 :: u62 :: u63 :: u64 :: 
      u65 :: u66 :: u67 :: u68 :: u69 :: u70 :: u71 :: u72 :: u73 :: u74 :: u75 :: u76 :: u77 :: u78 :: u79 :: u80 :: u81 :: u82 :: u83 :: u84 :: u85 :: u86 :: u87 :: u88 :: u89 :: u90 :: u91 :: u92 :: u93 :: u94 :: u95 :: u96 :: u97 :: u98 :: u99 :: u100 :: u101 :: 
      u102 :: u103 :: u104 :: u105 :: u106 :: u107 :: u108 :: u109 :: u110 :: u111 :: u112 :: u113 :: u114 :: u115 :: u116 :: u117 :: u118 :: u119 :: u120 :: u121 :: u122 :: u123 :: u124 :: u125 :: u126 :: u127 :: u128 :: u129 :: u130 :: u131 :: u132 :: u133 :: u134 :: 
      u135 :: u136 :: u137 :: u138 :: u139 :: u140 :: u141 :: u142 :: u143 :: u144 :: u145 :: u146 :: u147 :: u148 :: u149 :: u150 :: u151 :: u152 :: u153 :: u154 :: u155 :: u156 :: u157 :: u158 :: u159 :: u160 :: u161 :: u162 :: u163 :: u164 :: u165 :: u166 :: u167 :: 
      u168 :: u169 :: u170 :: u171 :: u172 :: u173 :: u174 :: u175 :: u176 :: u177 :: u178 :: u179 :: u180 :: u181 :: u182 :: u183 :: u184 :: u185 :: u186 :: u187 :: u188 :: u189 :: u190 :: u191 :: u192 :: u193 :: u194 :: u195 :: u196 :: []), []⟩ w := by
  conv => arg 2; arg 1; whnf
  go_loopw [29] (fun kk wr => ∃ (l' lf' : List Nat) (vl' vleaf' : Value), kk = .int .i64 (lf'.length : Int) ∧ lf'.length ≤ L ∧ l'.length ≤ lf'.length ∧ BWU wb wr gb gm gM L c1 cap4 cap5 cap6 vl' vleaf' (.slice none 0 0) l' lf' [] ∧ l'.Nodup ∧ (∀ s ∈ l', Reach L leaf br s) ∧ (∀ s ∈ l', P s) ∧
    LeafOK leaf l' lf') (fun kk _ => L - (intOf kk).toNat)
  case atStart => exact ⟨[], [], _, _, rfl, by simp, by simp, hB, List.nodup_nil, by simp, by simp, fun x e h => by simp at h⟩
  case round =>
    obtain ⟨l', lf', vl', vleaf', rfl, hlf, hll, hB', hn', hR', hP', hLf⟩ := hrel
    have hcb := hB'.bld.blk.cell
    have hwb := hB'.kept.size
    have hNN := hide hn'
    have hRR := hide hR'
    have hPP := hide hP'
    have hLL := hide hLf
    clear hn' hR' hP' hLf
    go_wp2_with (first
      | (go_at_call 98; refine Calls.ret (hC.fl _ hB'.kept lf'.length (by omega)) ?_; rintro v w1 ⟨rfl, hb1⟩; have hB1 := hB'.below hb1; have hsz1 := hb1.size)
      | (go_at_call 112; refine Calls.ret (meetU w1 wb.heap.size gb gm _ c1 _ _ _ _ l' (leaf lf'.length) hB1.bld (by omega) (Nat.le_trans hwb hsz1)) ?_; rintro v w2 ⟨rfl, vl2, hBl, hk2, hmv2⟩; have hB2 := hB1.list hk2 hBl; have hcm := hB2.mach.cell; have hwb2 := hB2.kept.size; obtain ⟨A, c, rfl⟩ := slice_of_own hB2.lfs)
      | (at_builtin; refine wpList_app_new row22 rfl _ _ rfl wb.heap.size (.slice A lf'.length c) lf'.length _ rfl hB2.lfs [.int .i64 ((meetL l' (leaf lf'.length)).idxOf (leaf lf'.length) : Nat)] 1 rfl rfl (by simp [Value.oneCell']) (by omega) hwb2 ?_; intro g cap' w3 hown hk3 hmv3 hg3; have hm3 := hB2.mach.kept hk3 (fun e => own_blk_ne hB2.lfs hB2.mach (by decide) e); have hcm3 := hm3.cell; have hfm3 := hm3.frozen))
    · have hX : ∀ k, ((Value.slice A lf'.length c).ownBlock = some k ∨ k = gM) → wb.heap.size ≤ k ∧ ∃ t cs, Blk w2 k t cs ∧ t ≠ 138 ∧ 70 ≠ t := by
        rintro k (hk | rfl)
        · obtain ⟨cs, hb⟩ := own_blk hB2.lfs hk
          exact ⟨own_base hB2.lfs hk, 3, cs, hb, by decide, by decide⟩
        · exact ⟨hB2.gM_, 82, _, hB2.mach, by decide, by decide⟩
      have hk5 := (hk3.mono (Y := fun k => (Value.slice A lf'.length c).ownBlock = some k ∨ k = gM) fun _ _ h => .inl h).setCell (p := ⟨gM, 2, none⟩) (fun _ => .inr rfl) (.slice (some ⟨g, 0, none⟩) (lf'.length + 1) cap')
      have hks := (Kept.refl w3 (fun k => k = gM)).setCell (p := ⟨gM, 2, none⟩) (fun _ => rfl) (.slice (some ⟨g, 0, none⟩) (lf'.length + 1) cap')
      have hown2 := own_ty hks hown (fun k cs e hb => by subst e; exact hm3.ne_ hb (by decide) rfl)
      have hlen := length_meetL l' (leaf lf'.length)
      refine ⟨⟨meetL l' (leaf lf'.length), lf' ++ [(meetL l' (leaf lf'.length)).idxOf (leaf lf'.length)], vl2, _, by simp, by simp; omega, by simp; omega,
        ⟨hB2.kept.trans hk5 (fun b hb hx => by have := (hX b hx).1; omega), hB2.bld.other hk5 (fun k hk => (hX k hk).2), hm3.set_ 2 _, ?_, Tab.nil, hB2.gm_, hB2.gM_⟩, nodup_meetL hNN.out _, ?_, ?_, ?_⟩, by simp [intOf]; omega⟩
      · unfold IntRow
        simpa [encN] using hown2
      · intro u hu
        rcases mem_meetL.1 hu with hu | rfl
        · exact hRR.out u hu
        · exact .leaf _ (by omega)
      · intro u hu
        rcases mem_meetL.1 hu with hu | rfl
        · exact hPP.out u hu
        · exact hC.pleaf _ (by omega)
      · exact (hLL.out.grow (prefix_meetL _ _)).snoc (get_meetL _ _)
    · exact hQ _ _ _ _ _ _ _ _ _ _ _ _ _ _ _ _ _ _ _ _ _ _ _ _ wr vl' vleaf' l' lf' hB' hNN.out hRR.out hPP.out (by omega) (by omega) hLL.out
end Go.Proofs.Ytnimlcbgeiajiaa

namespace Go.Proofs.Ytnimlcbgeiajiaa
open Go.RowKit

theorem info4 : (Try.prog.info? 4).map (fun i => (i.zero, i.size, i.bytes)) = some (some (.bool false), 1, 1) := by kernel_rfl
theorem row79 : RowTy Try.prog 79 4 1 := rowTy_of Try.underlying79 info4 rfl (by omega) (by omega)

/-- A machine in memory. -/
structure MachA (w : World) (base gM L : Nat) (vacc vleaf vbr : Value) (ac : List Bool) (lf : List Nat) (t : List (List (List Nat))) : Prop where
  blk : Blk w gM 82 #[.int .i64 L, vacc, vleaf, vbr]
  acc : w.ownsRow base 4 1 vacc ac.length (ac.map .bool)
  lfs : IntRow w base vleaf lf
  tab : Tab w base vbr t
def Mach (w : World) (base gM L : Nat) (ac : List Bool) (lf : List Nat) (t : List (List (List Nat))) : Prop := ∃ vacc vleaf vbr, MachA w base gM L vacc vleaf vbr ac lf t

theorem MachA.keep {w w' : World} {X : Nat → Prop} {base gM L : Nat} {vacc vleaf vbr : Value} {ac : List Bool} {lf : List Nat} {t : List (List (List Nat))} (h : MachA w base gM L vacc vleaf vbr ac lf t) (hk : Kept w w' X)
    (hX : ∀ k t cs, X k → Blk w k t cs → t ≠ 82 ∧ t ≠ 4 ∧ t ≠ 3 ∧ t ≠ 22 ∧ t ≠ 104) : MachA w' base gM L vacc vleaf vbr ac lf t := by
  have hn : ∀ (e : TypeId), (e = 82 ∨ e = 4 ∨ e = 3 ∨ e = 22 ∨ e = 104) → ∀ k cs, X k → ¬ Blk w k e cs := fun e he k cs hx hb => by
    have := hX k e cs hx hb
    rcases he with rfl | rfl | rfl | rfl | rfl <;> simp_all
  obtain ⟨us, hu⟩ := h.tab.open
  refine ⟨h.blk.kept hk fun hx => hn 82 (by simp) _ _ hx h.blk, own_ty hk h.acc (hn 4 (by simp)), own_ty hk h.lfs (hn 3 (by simp)), (hu.keep hk (hn 3 (by simp)) (hn 22 (by simp)) fun g hg hx => ?_).close⟩
  obtain ⟨cs, hb⟩ := own_blk hu.own hg
  exact hn 104 (by simp) _ _ hx hb

set_option maxHeartbeats 4000000 in
set_option maxRecDepth 100000 in
theorem bld_accept {wb : World} {gb gm gM L g0 cap0 : Nat} {c1 cap4 cap5 cap6 vleaf vbr : Value} {leaf : Nat → Nat} {br : Nat → Nat → Nat → Nat} {acc : Nat → Bool} {P : Nat → Prop} (hC : ClosU wb gb L cap4 cap5 cap6 leaf br acc P)
    {w : World} {l lf : List Nat} {t : List (List (List Nat))} (hK : Kept wb w (fun k => k = gb)) (hB : BldU w wb.heap.size gb gm (.int .i64 L) c1 (.func (.func 98) #[] #[cap4]) (.func (.func 99) #[] #[cap5]) (.func (.func 100) #[] #[cap6]) (.slice (some ⟨g0, 0, none⟩) l.length cap0) l)
    (hM : MachA w wb.heap.size gM L (.slice none 0 0) vleaf vbr [] lf t) (hgM : wb.heap.size ≤ gM) (hP : ∀ s ∈ l, P s) (hl : l.length ≤ 64)
    {u1 u2 u4 u5 u6 u7 u8 u9 u10 u11 u12 u13 u14 u15 u16 u17 u18 u19 u20 u21 u22 u23 u24 u25 u26 u27 u28 u29 u30 u31 u32 u33 u34 u35 u36 u37 u38 u39 u40 u41 u42 u43 u44 u45 u46 u47 u48 u49 u50 u51 u52 u53 u54 u55 u56 u57 u58 u59 u60 u61 u62 u63 u64 u65 u66 u67 u68 u69 u70 u71 u72 u73 u74 u75 u76 u77 u78 u79 u80 u81 u82 u83 u84 u85 u86 u87 u88 u89 u90 u91 u92 u93 u94 u95 u96 u97 u98 u99 u100 u101 u102 u103 u104 u105 u106 u107 u108 u109 u110 u111 u112 u113 u114 u115 u116 u117 u118 u119 u120 u121 u122 u123 u124 u125 u126 u127 u128 u129 u130 u131 u132 u133 u134 u135 u136 u137 u138 u139 u140 u141 u142 u143 u144 u145 u146 u147 u148 u149 u150 u151 u152 u153 u154 u155 u156 u157 u158 u159 u160 u161 u162 u163 u164 u165 u166 u167 u168 u169 u170 u171 u172 u173 u177 u178 u179 u180 u181 u182 u183 u184 u185 u186 u187 u188 u189 u190 u191 u192 u193 u194 u195 u196 : Value}
    {Q : Exit → Act → World → Prop} (hN : Reg.NoQ Q)
    (hQ : ∀ (x14 x176 x177 x178 x179 x180 x181 x182 x183 x184 x185 x186 x187 x188 x189 x190 x191 x192 x193 x194 x195 : Value) (w' : World) (vacc : Value), Kept wb w' (fun k => k = gb) → MachA w' wb.heap.size gM L vacc vleaf vbr (l.map acc) lf t →
      Q (.exit 10) ⟨List.toArray ((.pointer (some ⟨gb, 0, none⟩)) :: u1 :: u2 :: (.pointer (some ⟨gM, 0, none⟩)) :: u4 :: u5 :: u6 :: u7 :: u8 :: u9 :: u10 :: u11 :: u12 :: u13 :: x14 :: u15 :: u16 :: u17 :: u18 :: u19 :: u20 :: u21 :: u22 :: u23 :: u24 :: u25 :: u26 :: u27 :: u28 :: u29 :: 
      u30 :: u31 :: u32 :: u33 :: u34 :: u35 :: u36 :: u37 :: u38 :: u39 :: u40 :: u41 :: u42 :: u43 :: u44 :: u45 :: u46 :: u47 :: u48 :: u49 :: u50 :: u51 :: u52 :: u53 :: u54 :: u55 :: u56 :: u57 :: u58 :: u59 :: u60 :: u61 :: u62 :: u63 :: u64 :: u65 :: u66 :: 
      u67 :: u68 :: u69 :: u70 :: u71 :: u72 :: u73 :: u74 :: u75 :: u76 :: u77 :: u78 :: u79 :: u80 :: u81 :: u82 :: u83 :: u84 :: u85 :: u86 :: u87 :: u88 :: u89 :: u90 :: u91 :: u92 :: u93 :: u94 :: u95 :: u96 :: u97 :: u98 :: u99 :: u100 :: u101 :: u102 :: u103 :: 
      u104 :: u105 :: u106 :: u107 :: u108 :: u109 :: u110 :: u111 :: u112 :: u113 :: u114 :: u115 :: u116 :: u117 :: u118 :: u119 :: u120 :: u121 :: u122 :: u123 :: u124 :: u125 :: u126 :: u127 :: u128 :: u129 :: u130 :: u131 :: u132 :: u133 :: u134 :: u135 :: u136 :: 
      u137 :: u138 :: u139 :: u140 :: u141 :: u142 :: u143 :: u144 :: u145 :: u146 :: u147 :: u148 :: u149 :: u150 :: u151 :: u152 :: u153 :: u154 :: u155 :: u156 :: u157 :: u158 :: u159 :: u160 :: u161 :: u162 :: u163 :: u164 :: u165 :: u166 :: u167 :: u168 :: u169 :: 
      u170 :: u171 :: u172 :: u173 :: (.slice (some ⟨g0, 0, none⟩) l.length cap0) :: (.int .i64 l.length) :: x176 :: x177 :: x178 :: x179 :: x180 :: x181 :: x182 :: x183 :: x184 :: x185 :: x186 :: x187 :: x188 :: x189 :: x190 :: x191 :: x192 :: x193 :: x194 :: x195 :: 
      u196 :: []), []⟩ w') :
    (Code.loop (loopBody Try.f101 5)).wp Try.prog Q ⟨List.toArray ((.pointer (some ⟨gb, 0, none⟩)) :: u1 :: u2 :: (.pointer (some ⟨gM, 0, none⟩)) :: u4 :: u5 :: u6 :: u7 :: u8 :: u9 :: u10 :: u11 :: u12 :: u13 :: u14 :: u15 :: u16 :: u17 :: u18 :: u19 :: u20 :: u21 :: u22 :: u23 :: u24 :: u25 :: u26 :: u27 :: u28 :: u29 :: 
      u30 :: u31 :: u32 :: u33 :: u34 :: u35 :: u36 :: u37 :: u38 :: u39 :: u40 :: u41 :: u42 :: u43 :: u44 :: u45 :: u46 :: u47 :: u48 :: u49 :: u50 :: u51 :: u52 :: u53 :: u54 :: u55 :: u56 :: u57 :: u58 :: u59 :: u60 :: u61 :: u62 :: u63 :: u64 :: u65 :: u66 :: 
      u67 :: u68 :: u69 :: u70 :: u71 :: u72 :: u73 :: u74 :: u75 :: u76 :: u77 :: u78 :: u79 :: u80 :: u81 :: u82 :: u83 :: u84 :: u85 :: u86 :: u87 :: u88 :: u89 :: u90 :: u91 :: u92 :: u93 :: u94 :: u95 :: u96 :: u97 :: u98 :: u99 :: u100 :: u101 :: u102 :: u103 :: 
      u104 :: u105 :: u106 :: u107 :: u108 :: u109 :: u110 :: u111 :: u112 :: u113 :: u114 :: u115 :: u116 :: u117 :: u118 :: u119 :: u120 :: u121 :: u122 :: u123 :: u124 :: u125 :: u126 :: u127 :: u128 :: u129 :: u130 :: u131 :: u132 :: u133 :: u134 :: u135 :: u136 :: 
      u137 :: u138 :: u139 :: u140 :: u141 :: u142 :: u143 :: u144 :: u145 :: u146 :: u147 :: u148 :: u149 :: u150 :: u151 :: u152 :: u153 :: u154 :: u155 :: u156 :: u157 :: u158 :: u159 :: u160 :: u161 :: u162 :: u163 :: u164 :: u165 :: u166 :: u167 :: u168 :: u169 :: 
      u170 :: u171 :: u172 :: u173 :: (.slice (some ⟨g0, 0, none⟩) l.length cap0) :: (.int .i64 l.length) :: (.int .i64 0) :: u177 :: u178 :: u179 :: u180 :: u181 :: u182 :: u183 :: u184 :: u185 :: u186 :: u187 :: u188 :: u189 :: u190 :: u191 :: u192 :: u193 :: u194 :: 
      u195 :: u196 :: []), []⟩ w := by
  conv => arg 2; arg 1; whnf
  go_loopw [176] (fun kk wr => ∃ (ac : List Bool) (vacc : Value), kk = .int .i64 (ac.length : Int) ∧ ac.length ≤ l.length ∧ Kept wb wr (fun k => k = gb) ∧ BldU wr wb.heap.size gb gm (.int .i64 L) c1 (.func (.func 98) #[] #[cap4]) (.func (.func 99) #[] #[cap5]) (.func (.func 100) #[] #[cap6]) (.slice (some ⟨g0, 0, none⟩) l.length cap0) l ∧
    MachA wr wb.heap.size gM L vacc vleaf vbr ac lf t ∧ Hid (ac = (l.take ac.length).map acc)) (fun kk _ => l.length - (intOf kk).toNat)
  case atStart => exact ⟨[], _, rfl, Nat.zero_le _, hK, hB, hM, rfl⟩
  case round =>
    obtain ⟨ac, vacc, rfl, hk, hK', hB', hM', hac⟩ := hrel
    obtain ⟨A, c, rfl⟩ := slice_of_own hM'.acc
    have hcb := hB'.blk.cell
    have hcm := hM'.blk.cell
    have hPP := hide hP
    clear hP
    by_cases hlt : ac.length < l.length
    · obtain ⟨s, hs⟩ : ∃ s, l[ac.length]? = some s := ⟨_, List.getElem?_eq_getElem hlt⟩
      have hci := own_cell hB'.row (map_get (f := encU) hs)
      simp only [encU] at hci
      have hPs := hPP.out s (List.mem_of_getElem? hs)
      have hHs := hide hs
      clear hs
      go_wp2_with fail
      refine Reg.region_cut [0, 0, 2, 6, 14, 0, 32, 96, 224, 0, 992, 2016, 4094, 8191, 16383, 32767] [0, 1, 2, 3, 4, 5, 6, 7, 8, 9, 10, 11, 12, 13, 14, 15] (by kernel_rfl) (by repeat (first | exact hN | refine Reg.NoQ.then ?_ | refine Reg.NoQ.inBlock ?_)) ?_
      refine Reg.rest_walk' [0, 1, 2, 3, 4, 5, 6, 7, 8, 9] [10, 11, 12, 13, 14, 15] rfl (by kernel_rfl) ?_
      intro Qf hQf
      go_wp2_with fail
      rw [List.filterMap_nil]
      go_wp2_with fail
      refine Reg.rest_act' 10 [11, 12, 13, 14, 15] [4] rfl (by kernel_rfl) ?_
      intro Qf hQf
      simp only [List.getElem_toArray, List.getElem_cons_succ, List.getElem_cons_zero]
      go_wp2_with (go_at_call 100; refine Calls.ret (hC.fa _ hK'.drew s hPs) ?_; rintro v w1 ⟨rfl, hb0⟩; have hb1 : Below wr.heap.size wr w1 := ⟨hb0.os, hb0.tape, hb0.output, hb0.size, hb0.block⟩)
      refine ⟨Reg.same_below hb0 [4] rfl, ?_⟩
      clear hb0
      have hkb : Kept wr w1 (fun _ => False) := Kept.of_below hb1 _
      have hB1 := hB'.below hb1
      have hM1 := hM'.keep hkb (fun _ _ _ h => h.elim)
      have hK1 := hK'.trans hkb (fun _ _ h => h.elim)
      refine Reg.rest_walk' [11] [12, 13, 14, 15] rfl (by kernel_rfl) ?_
      intro Qf hQf
      go_wp2_with fail
      rw [List.filterMap_nil]
      go_wp2_with fail
      refine Reg.rest_act' 12 [13, 14, 15] [] rfl (by kernel_rfl) ?_
      intro Qf hQf
      simp only [List.getElem_toArray, List.getElem_cons_succ, List.getElem_cons_zero]
      refine wpList_app_new (w := w1) row79 rfl _ _ rfl wb.heap.size (.slice A ac.length c) ac.length _ rfl hM1.acc [.bool (acc s)] 1 rfl rfl (by simp [Value.oneCell']) (by omega) hK1.size ?_
      intro g cap' w3 hown hk3 hmv3 hg3
      have hm3 := hM1.blk.kept hk3 (fun e => own_blk_ne hM1.acc hM1.blk (by decide) e)
      have hcm3 := hm3.cell
      have hfm3 := hm3.frozen
      have hB3 := hB1.other hk3 (fun k hk => by
        obtain ⟨cs, hb⟩ := own_blk hM1.acc hk
        exact ⟨4, cs, hb, by decide, by decide⟩)
      have hK3 := hK1.trans hk3 (fun b hb hx => by have := own_base hM1.acc hx; omega)
      refine hQf _ _ ⟨fun r hr => absurd hr (List.not_mem_nil), ?_⟩
      clear hQf
      refine Reg.rest_walk' [13, 14, 15] [] rfl (by kernel_rfl) ?_
      intro Qf hQf
      go_wp2_with fail
      rw [List.filterMap_nil]
      go_wp2_with fail
      refine Reg.rest_end ?_
      go_wp2_with fail
      have hks := (Kept.refl w3 (fun k => k = gM)).setCell (p := ⟨gM, 1, none⟩) (fun _ => rfl) (.slice (some ⟨g, 0, none⟩) (ac.length + 1) cap')
      have hg82 : ∀ (e : TypeId), e ≠ 82 → ∀ k cs, k = gM → ¬ Blk w3 k e cs := fun e he k cs ek hb => by subst ek; exact hm3.ne_ hb (fun h => he h.symm) rfl
      obtain ⟨us, hu⟩ := hM1.tab.open
      have hu3 := hu.keep hk3 (not_blk hM1.acc (by decide)) (not_blk hM1.acc (by decide)) (fun g hg => own_own_ne hu.own hM1.acc (by decide) hg)
      have hu4 := hu3.keep hks (hg82 3 (by decide)) (hg82 22 (by decide)) (fun k hk ek => hg82 104 (by decide) k _ ek (own_blk hu3.own hk).choose_spec)
      refine ⟨⟨ac ++ [acc s], _, by simp, by simp; omega, hK3.trans hks (fun b hb hx => by omega), hB3.other hks (fun k hk => by subst hk; exact ⟨82, _, hm3, by decide, by decide⟩), ⟨hm3.set_ 1 _, ?_, own_ty hks (own_ty hk3 hM1.lfs (not_blk hM1.acc (by decide))) (hg82 3 (by decide)), hu4.close⟩, ?_⟩, by simp [intOf]; omega⟩
      · have := own_ty hks hown (hg82 4 (by decide))
        simpa using this
      · show ac ++ [acc s] = _
        rw [List.length_append, List.length_singleton, List.take_add_one, hHs.out, List.map_append, ← hac.out]
        rfl
    · have e : ac.length = l.length := by omega
      have he := hide e
      clear e
      go_wp2_with fail
      refine hQ _ _ _ _ _ _ _ _ _ _ _ _ _ _ _ _ _ _ _ _ _ wr (.slice A ac.length c) hK' ?_
      rw [he.out, List.take_length] at hac
      have := hac.out
      subst this
      exact hM'
end Go.Proofs.Ytnimlcbgeiajiaa

namespace Go.Proofs.Ytnimlcbgeiajiaa
open Go.RowKit

theorem mkmap_facts (t : TypeId) (w : World) : ∃ gm w1, (Instr.makeMap t none).run Try.prog w = .ok (.map (some gm)) w1 ∧ IdxMap w1 gm [] ∧ Below w.heap.size w w1 ∧ w.heap.size ≤ gm :=
  ⟨_, _, run_makeMap t w, IdxMap.made w, (Below.refl _ _).alloc (Nat.le_refl _) _, Nat.le_refl _⟩

set_option maxHeartbeats 4000000 in
set_option maxRecDepth 100000 in
theorem buildU {wb : World} {gb L : Nat} {cap4 cap5 cap6 : Value} {leaf : Nat → Nat} {br : Nat → Nat → Nat → Nat} {acc : Nat → Bool} {P : Nat → Prop} (hC : ClosU wb gb L cap4 cap5 cap6 leaf br acc P)
    (h0 : 0 < L) (hL : L ≤ 8) (hb : Blk wb gb 138 #[.int .i64 L, .int .i64 64, .map none, .slice none 0 0, .func (.func 98) #[] #[cap4], .func (.func 99) #[] #[cap5], .func (.func 100) #[] #[cap6]]) :
    Calls Try.prog 101 #[.pointer (some ⟨gb, 0, none⟩)] wb (Ret fun v w' => Kept wb w' (fun k => k = gb) ∧ ∃ l : List Nat, l.Nodup ∧ (∀ s ∈ l, Reach L leaf br s) ∧
      ((v = .pointer none ∧ 64 < l.length) ∨ ∃ gM lf t, v = .pointer (some ⟨gM, 0, none⟩) ∧ wb.heap.size ≤ gM ∧ Mach w' wb.heap.size gM L (l.map acc) lf t ∧ lf.length = L ∧ LeafOK leaf l lf ∧
        TabOK L br l (fun _ => l.length) t ∧ t.length = l.length ∧ l.length ≤ 64)) := by
  obtain ⟨gm, w1, hmk, hmap, hb1, hgm⟩ := mkmap_facts 136 wb
  have hblk1 := hb.kept (Kept.of_below hb1 fun _ => False) id
  have hcb := hblk1.cell
  have hfb := hblk1.frozen
  have hblk2 := hblk1.set_ 2 (.map (some gm))
  have hblk3 : Blk ((w1.setCell ⟨gb, 2, none⟩ (.map (some gm))).alloc (.cells #[.int .i64 L, .slice none 0 0, .slice none 0 0, .slice none 0 0] 82)) gb 138 #[.int .i64 L, .int .i64 64, .map (some gm), .slice none 0 0, .func (.func 98) #[] #[cap4], .func (.func 99) #[] #[cap5], .func (.func 100) #[] #[cap6]] :=
    hblk2.kept ((Kept.refl _ (fun _ => False)).alloc _) id
  have hcb2 := hblk3.cell 0
  have hgMb : wb.heap.size ≤ w1.heap.size := hb1.size
  have hk1 : Kept wb ((w1.setCell ⟨gb, 2, none⟩ (.map (some gm))).alloc (.cells #[.int .i64 L, .slice none 0 0, .slice none 0 0, .slice none 0 0] 82)) (fun k => k = gb) :=
    ((Kept.of_below hb1 (fun k => k = gb)).setCell (p := ⟨gb, 2, none⟩) (fun _ => rfl) _).alloc _
  have hmap3 : IdxMap ((w1.setCell ⟨gb, 2, none⟩ (.map (some gm))).alloc (.cells #[.int .i64 L, .slice none 0 0, .slice none 0 0, .slice none 0 0] 82)) gm [] :=
    hmap.kept (((Kept.refl w1 (fun k => k = gb)).setCell (p := ⟨gb, 2, none⟩) (fun _ => rfl) _).alloc _) (fun e => blk_map_ne hblk1 hmap e.symm)
  have hB0 : BWU wb ((w1.setCell ⟨gb, 2, none⟩ (.map (some gm))).alloc (.cells #[.int .i64 L, .slice none 0 0, .slice none 0 0, .slice none 0 0] 82)) gb gm w1.heap.size L (.int .i64 64) cap4 cap5 cap6 (.slice none 0 0) (.slice none 0 0) (.slice none 0 0) [] [] [] := by
    refine ⟨hk1, ⟨hblk3, hmap3, own_nil⟩, ?_, own_nil, Tab.nil, hgm, hgMb⟩
    have := Blk.new (w1.setCell ⟨gb, 2, none⟩ (.map (some gm))) 82 #[.int .i64 L, .slice none 0 0, .slice none 0 0, .slice none 0 0]
    simpa using this
  have hgmM : gm ≠ w1.heap.size := by have := hmap.lt; omega
  clear hk1 hmap3 hblk3 hblk2
  go_enter Try.func101, Try.ntmps101
  go_wp2_with fail
  refine bld_leaves hC hL hB0 ?_ ?_
  · repeat (first | exact Reg.NoQ.body (fun _ _ h => h) (fun _ h => h) | refine Reg.NoQ.then ?_ | refine Reg.NoQ.inBlock ?_)
  iterate 24 (intro _)
  intro w2 vl2 vleaf2 l2 lf2 hB2 hn2 hR2 hP2 hl2 hlf2 hLf2
  have hNN := hide hn2
  have hRR := hide hR2
  have hPP := hide hP2
  have hLL := hide hLf2
  have hLl := hide hlf2
  clear hn2 hR2 hP2 hLf2 hlf2 hB0 hcb hcb2 hfb hmk hb
  go_wp2_with fail
  refine bld_rounds hC hL hB2 hNN.out hRR.out hPP.out (by omega) ?_ ?_ ?_
  · repeat (first | exact Reg.NoQ.body (fun _ _ h => h) (fun _ h => h) | refine Reg.NoQ.then ?_ | refine Reg.NoQ.inBlock ?_)
  · iterate 128 (intro _)
    intro w3 vl3 vbr3 l3 t3 hB3 hpre3 hn3 hR3 hP3 hT3 htl3 hl3
    have hls : 0 < l3.length := by
      have h1 := hLl.out
      obtain ⟨e, he⟩ : ∃ e, lf2[0]? = some e := ⟨_, List.getElem?_eq_getElem (by omega)⟩
      have := lt_of_get (prefix_get hpre3 (hLL.out 0 e he))
      omega
    obtain ⟨s0, hs0⟩ : ∃ s0, l3[0]? = some s0 := ⟨_, List.getElem?_eq_getElem hls⟩
    obtain ⟨g0, cap0, rfl, -⟩ := own_get hB3.bld.row (map_get (f := encU) hs0)
    have hcb := hB3.bld.blk.cell
    have hls' := hide hls
    have hH0 := hide hs0
    have hNN3 := hide hn3
    have hRR3 := hide hR3
    have hPP3 := hide hP3
    have hTT3 := hide hT3
    have hTL3 := hide htl3
    have hpp3 := hide hpre3
    clear hs0 hn3 hR3 hP3 hT3 htl3 hpre3 hls
    go_wp2_with fail
    refine bld_accept hC hB3.kept hB3.bld ⟨hB3.mach, own_nil, hB3.lfs, hB3.tab⟩ hB3.gM_ hPP3.out hl3 ?_ ?_
    · repeat (first | exact Reg.NoQ.body (fun _ _ h => h) (fun _ h => h) | refine Reg.NoQ.then ?_ | refine Reg.NoQ.inBlock ?_)
    iterate 21 (intro _)
    intro w4 vacc4 hK4 hM4
    have hMM4 := hide hM4
    clear hM4
    go_wp2_with fail
    go_ret
    exact ⟨hK4, l3, hNN3.out, hRR3.out, .inr ⟨w1.heap.size, lf2, t3, rfl, hgMb, ⟨_, _, _, hMM4.out⟩, hLl.out, hLL.out.grow hpp3.out, hTT3.out, hTL3.out, hl3⟩⟩
  · iterate 128 (intro _)
    intro vl3 vbr3 l3 t3 hB3 hn3 hR3 hl3
    have hNN3 := hide hn3
    have hRR3 := hide hR3
    have hBB3 := hide hB3
    clear hn3 hR3 hB3
    go_wp2_with fail
    go_ret
    exact ⟨hBB3.out.kept, l3, hNN3.out, hRR3.out, .inl ⟨rfl, hl3⟩⟩
end Go.Proofs.Ytnimlcbgeiajiaa
