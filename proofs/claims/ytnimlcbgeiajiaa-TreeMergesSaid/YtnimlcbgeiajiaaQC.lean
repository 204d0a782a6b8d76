/-
  Sets of states as words of 64 bits: what Go's operations on them are.
  tree.Validate: the walk; what it answers is the function TA.valid of the automaton's data.
  tree.determine's closures: the walks; the sets that leaves and branches give.
  tree.determine: the walk: the machine of the sets of states that trees have.
  Trees, the machines that run on them, and when a machine is the canonical one of a language: plain Lean, no program in sight.
  Machines in memory read as machines; what a builder built is a machine that runs as the states do.
  machine.refine: words of bytes, signs, and an append of several elements at once.
  machine.refine: the innermost loop: a sign grows by the words of one second state.
  machine.refine: the loop over the second states: a sign grows by all its words.
  Numbering signs: what the loop of machine.refine knows; the length of a numbering map; strings as keys.
  Classes of states: rounds of refinement, and when they have come to rest: plain Lean.
  machine.refine: the loop over the states.
  machine.refine: the walk, joined: numbers for the states, equal where the signs are equal.
  machine.classes: the loops that lay the first classes and count them.
  machine.classes: the rounds, and the walk joined.
-/
import Derived.Laws.BitsAllLaws
import Derived.Laws.EntriesVeiled
import Derived.StillTailTactics
import Derived.Test.YtnimlcbgeiajiaaQB

namespace Go.Proofs.Ytnimlcbgeiajiaa
open Go.RowKit

def U64 (n : Nat) : Prop := n < 18446744073709551616
def mOr (a b : Nat) : Nat := a ||| b
def mAnd (a b : Nat) : Nat := a &&& b
def mShr (s : Nat) (q : Int) : Nat := s >>> q.toNat
def mPow (q : Int) : Nat := 2 ^ q.toNat
def mBit (s : Nat) (q : Int) : Bool := s.testBit q.toNat
def mHit (a b : Nat) : Bool := mAnd a b != 0

theorem U64.zero : U64 0 := by unfold U64; omega
theorem U64.one : U64 1 := by unfold U64; omega
theorem U64.or {a b : Nat} (ha : U64 a) (hb : U64 b) : U64 (mOr a b) := Nat.or_lt_two_pow (n := 64) ha hb
theorem U64.and {a b : Nat} (ha : U64 a) : U64 (mAnd a b) := Nat.lt_of_le_of_lt Nat.and_le_left ha
theorem U64.shr {a : Nat} {q : Int} (ha : U64 a) : U64 (mShr a q) := by
  unfold U64 mShr at *
  rw [Nat.shiftRight_eq_div_pow]
  exact Nat.lt_of_le_of_lt (Nat.div_le_self _ _) ha
theorem U64.pow {q : Int} (h1 : q < 64) : U64 (mPow q) := by
  have : q.toNat < 64 := by omega
  exact Nat.pow_lt_pow_right (a := 2) (by omega) this

theorem bop_shr (t : TypeId) (s : Nat) (q : Int) (h0 : 0 ≤ q) (h1 : q < 64) : binOp .shr t (.int .u64 (s : Int)) (.int .i64 q) = pure (.int .u64 (mShr s q : Int)) := by
  rw [binOp_shr, shift_shr_u64 .i64 _ _ h0 (by omega)]
  unfold mShr
  rw [Nat.shiftRight_eq_div_pow]
  simp
theorem bop_shl (t : TypeId) (q : Int) (h0 : 0 ≤ q) (h1 : q < 64) : binOp .shl t (.int .u64 1) (.int .i64 q) = pure (.int .u64 (mPow q : Int)) := by
  rw [binOp_shl, shift_shl_u64 .i64 _ _ h0 (by omega), Int.one_mul]
  have h := U64.pow h1
  unfold U64 mPow at *
  have h3 : ((2 ^ q.toNat : Nat) : Int) = (2 : Int) ^ q.toNat := by simp
  rw [IntKind.wrap_u64, ← h3]
  generalize 2 ^ q.toNat = z at *
  congr 2
  omega
theorem bop_or (t : TypeId) (a b : Nat) (ha : U64 a) (hb : U64 b) : binOp .or t (.int .u64 (a : Int)) (.int .u64 (b : Int)) = pure (.int .u64 (mOr a b : Int)) := by
  rw [binOp_or, intBits_or, u64_or_nat a b ha hb]; rfl
theorem bop_and (t : TypeId) (a b : Nat) (ha : U64 a) (hb : U64 b) : binOp .and t (.int .u64 (a : Int)) (.int .u64 (b : Int)) = pure (.int .u64 (mAnd a b : Int)) := by
  rw [binOp_and, intBits_and, u64_and_nat a b ha hb]; rfl
theorem bop_and1 (t : TypeId) (a : Nat) (ha : U64 a) : binOp .and t (.int .u64 (a : Int)) (.int .u64 1) = pure (.int .u64 (mAnd a 1 : Int)) := bop_and t a 1 ha U64.one
theorem bop_bit (t : TypeId) (s : Nat) (q : Int) : binOp .eql t (.int .u64 (mAnd (mShr s q) 1 : Int)) (.int .u64 1) = pure (.bool (mBit s q)) := by
  rw [binOp_eql]
  congr 2
  unfold mAnd mShr mBit
  rw [Nat.testBit, Nat.and_comm]
  generalize s >>> q.toNat = z
  rw [Nat.and_comm, Nat.and_one_is_mod, Bool.eq_iff_iff]
  simp
  omega
theorem bop_ne0 (t : TypeId) (a b : Nat) : binOp .neq t (.int .u64 (mAnd a b : Int)) (.int .u64 0) = pure (.bool (mHit a b)) := by
  rw [binOp_neq]
  congr 2
  unfold mHit
  rw [Bool.eq_iff_iff]
  simp
attribute [go_sem high] bop_shr bop_shl bop_or bop_and bop_and1 bop_bit bop_ne0 U64.or U64.pow U64.shr U64.one U64.zero U64.and

theorem mBit_or (a b : Nat) (q : Int) : mBit (mOr a b) q = (mBit a q || mBit b q) := Nat.testBit_or ..
theorem mBit_pow (p q : Int) (hp : 0 ≤ p) (hq : 0 ≤ q) : mBit (mPow p) q = decide (p = q) := by
  unfold mBit mPow
  rw [Nat.testBit_two_pow]
  exact decide_eq_decide.2 (by omega)
theorem mBit_zero (q : Int) : mBit 0 q = false := Nat.zero_testBit ..
theorem mBit_and (a b : Nat) (q : Int) : mBit (mAnd a b) q = (mBit a q && mBit b q) := Nat.testBit_and ..
theorem mHit_iff {a b : Nat} : mHit a b = true ↔ ∃ q : Nat, mBit a q = true ∧ mBit b q = true := by
  unfold mHit
  rw [bne_iff_ne]
  constructor
  · intro h
    have : ∃ q, (a &&& b).testBit q = true := Classical.byContradiction fun hn => h (Nat.eq_of_testBit_eq fun i => by
      rw [Nat.zero_testBit]
      exact (Bool.not_eq_true _).mp fun hh => hn ⟨i, hh⟩)
    obtain ⟨q, hq⟩ := this
    rw [Nat.testBit_and, Bool.and_eq_true] at hq
    exact ⟨q, by simpa [mBit] using hq⟩
  · rintro ⟨q, h1, h2⟩ h0
    have : mBit (mAnd a b) q = true := by rw [mBit_and, h1, h2]; rfl
    rw [h0, mBit_zero] at this
    cases this
end Go.Proofs.Ytnimlcbgeiajiaa

namespace Go.Proofs.Ytnimlcbgeiajiaa
open Go.RowKit

def inR (n lo hi : Int) : Bool := decide (lo ≤ n) && decide (n < hi)

theorem all_take_succ {D : Type} {p : D → Bool} {l : List D} {k : Nat} {x : D} (hx : l[k]? = some x) (h : (l.take k).all p = true) (hp : p x = true) : (l.take (k + 1)).all p = true := by
  rw [List.take_add_one, hx]; simp [hp]; simpa using h
theorem all_false {D : Type} {p : D → Bool} {l : List D} {k : Nat} {x : D} (hx : l[k]? = some x) (hp : p x = false) : l.all p = false := by
  rw [List.all_eq_false]; exact ⟨x, List.mem_of_getElem? hx, by simp [hp]⟩
theorem all_done {D : Type} {p : D → Bool} {l : List D} {k : Nat} (hk : l.length ≤ k) (h : (l.take k).all p = true) : l.all p = true := by
  rwa [List.take_of_length_le hk] at h

set_option maxHeartbeats 400000 in
theorem val1_any (n L : Int) (b : Nat) (w : World) (hc : w.cell? ⟨b, 0, none⟩ = some (.int .i64 L)) :
    Calls Try.prog 43 #[.int .i64 n, .pointer (some ⟨b, 0, none⟩)] w fun e w' => e = .returned (.bool (inR n 0 L)) ∧ w = w' := by
  by_cases h : 0 ≤ n
  all_goals
    go_enter Try.func43, Try.ntmps43
    go_wp2
    go_ret
    exact ⟨by simp [inR]; omega, rfl⟩

set_option maxHeartbeats 400000 in
theorem val2_any (n L : Int) (b : Nat) (w : World) (hc : w.cell? ⟨b, 1, none⟩ = some (.int .i64 L)) :
    Calls Try.prog 44 #[.int .i64 n, .pointer (some ⟨b, 0, none⟩)] w fun e w' => e = .returned (.bool (inR n 0 L)) ∧ w = w' := by
  by_cases h : 0 ≤ n
  all_goals
    go_enter Try.func44, Try.ntmps44
    go_wp2
    go_ret
    exact ⟨by simp [inR]; omega, rfl⟩

def okLeaf (L S : Int) (l : Leaf) : Bool := inR l.letter 0 L && inR l.to 0 S
def okBranch (L S : Int) (b : Branch) : Bool := inR b.letter 0 L && inR b.first 0 S && inR b.second 0 S && inR b.to 0 S
def TA.head (a : TA) : Bool := decide (1 ≤ a.letters) && decide (a.letters ≤ 8) && decide (0 ≤ a.states) && decide (a.states ≤ 64)
def TA.valid (a : TA) : Bool := a.head && a.accept.all (inR · 0 a.states) && a.leaves.all (okLeaf a.letters a.states) && a.branches.all (okBranch a.letters a.states)

def errno (b : Bool) : Int := if b then 0 else 1


/-- The box of a parameter. -/
theorem box_facts (w : World) (cs : Array Value) (t : TypeId) : ∃ w1, w.alloc (.cells cs t) = w1 ∧ Below w.heap.size w w1 ∧ w.heap.size < w1.heap.size ∧ (∀ i, w1.cell? ⟨w.heap.size, i, none⟩ = cs[i]?) :=
  ⟨_, rfl, (Below.refl _ _).alloc (Nat.le_refl _) _, by simp, fun i => by simp⟩
theorem box_later {w1 w2 : World} {g : Nat} {cs : Array Value} (hb : Below w1.heap.size w1 w2) (hg : g < w1.heap.size) (hc : ∀ i, w1.cell? ⟨g, i, none⟩ = cs[i]?) :
    g < w2.heap.size ∧ ∀ i, w2.cell? ⟨g, i, none⟩ = cs[i]? := ⟨by have := hb.size; omega, fun i => (hb.cell (p := ⟨g, i, none⟩) hg).trans (hc i)⟩

theorem cell_old {w : World} {o : Obj} {p : Addr} {v : Value} (hp : p.block < w.heap.size) (h : w.cell? p = some v) : (w.alloc o).cell? p = some v := (World.cell?_alloc_lt w o p hp).trans h

set_option maxHeartbeats 4000000 in
theorem validate_head (v : Value) (a : TA) (w : World) (h : IsTA w w.heap.size v a) (hL : 1 ≤ a.letters ∧ a.letters ≤ 8 ∧ 0 ≤ a.states ∧ a.states ≤ 64) :
    Calls Try.prog 18 #[v] w fun e w' =>
      e = .returned (.int .i64 (errno a.valid)) ∧ Below w.heap.size w w' := by
  obtain ⟨A1, c1, A2, c2, A3, c3, rfl, h1, h2, h3⟩ := h
  have hmf := run_mf
  have HH : Hid (a.head = true) := by show a.head = true; simp [TA.head]; omega
  obtain ⟨L, S, acc, lv, br⟩ := a
  dsimp only at *
  have hn1 := h1.1
  have hn2 := h2.1
  have hn3 := h3.1
  go_enter Try.func18, Try.ntmps18
  go_wp2
  obtain ⟨w1, hw1, hb1, hg1, hB1⟩ := box_facts w #[.int .i64 L, .int .i64 S, .slice A1 acc.length c1, .slice A2 lv.length c2, .slice A3 br.length c3] 26
  rw [hw1]
  clear hw1
  go_loop [34] (fun i => ∃ k : Nat, k ≤ acc.length ∧ i = .int .i64 k ∧ (acc.take k).all (inR · 0 S)) (fun i => acc.length - (intOf i).toNat)
  case atStart => exact ⟨0, Nat.zero_le _, rfl, by simp⟩
  case round =>
    obtain ⟨k, hk, rfl, hall⟩ := hrel
    by_cases hlt : k < acc.length
    · obtain ⟨b, off, x, rfl, hb, hx, hc⟩ := h1.at hlt
      have hc0 := (hb1.cell (by exact hb)).trans (hc 0 (by omega))
      simp only [Nat.mul_one, Nat.add_zero, encI] at hc0
      clear hc
      have HX := hide hx
      clear hx
      cases hin : inR x 0 S
      all_goals
        have HI := hide hin
        clear hin
        go_wp2_with (go_at_call 44; refine (val2_any x S _ _ (hB1 1)).mono ?_; rintro e w' ⟨rfl, rfl⟩; rw [HI.out])
      · go_ret
        exact ⟨by rw [TA.valid]; dsimp only; rw [all_false HX.out HI.out]; simp [errno], hb1⟩
      · go_round
        case rel => exact ⟨k + 1, by omega, by go_num, all_take_succ HX.out hall HI.out⟩
        case measure => simp [intOf]; omega
    · have HA := hide (all_done (by omega) hall)
      clear hall
      go_wp2_with fail
      go_loopw [46] (fun i wr => ∃ k : Nat, k ≤ lv.length ∧ i = .int .i64 k ∧ (lv.take k).all (okLeaf L S) ∧ Below w1.heap.size w1 wr) (fun i _ => lv.length - (intOf i).toNat)
      case atStart => exact ⟨0, Nat.zero_le _, rfl, by simp, Below.refl _ _⟩
      case round =>
        obtain ⟨k, hk, rfl, hall, hbr⟩ := hrel
        obtain ⟨hg2, hB2⟩ := box_later hbr hg1 hB1
        by_cases hlt : k < lv.length
        · obtain ⟨b, off, x, rfl, hb, hx, hc⟩ := h2.at hlt
          have hc0 := (hbr.cell (by show b < _; omega)).trans ((hb1.cell (by exact hb)).trans (hc 0 (by omega)))
          have hc1 := (hbr.cell (by show b < _; omega)).trans ((hb1.cell (by exact hb)).trans (hc 1 (by omega)))
          simp only [Nat.add_zero, encL] at hc0 hc1
          clear hc
          have HX := hide hx
          clear hx
          cases hin : inR x.letter 0 L
          · have HI := hide hin
            clear hin
            go_wp2_with (go_at_call 43; refine (val1_any x.letter L w.heap.size _ (cell_old hg2 (hB2 0))).mono ?_; rintro e w' ⟨rfl, rfl⟩; rw [HI.out])
            go_ret
            exact ⟨by rw [TA.valid]; dsimp only; rw [all_false HX.out (by rw [okLeaf, HI.out]; rfl)]; simp [errno], (hb1.trans (hbr.mono (by omega))).alloc (by omega) _⟩
          · have HI := hide hin
            clear hin
            cases hin2 : inR x.to 0 S
            all_goals
              have HI2 := hide hin2
              clear hin2
              go_wp2_with (first | (go_at_call 43; refine (val1_any x.letter L w.heap.size _ (cell_old hg2 (hB2 0))).mono ?_; rintro e w' ⟨rfl, rfl⟩; rw [HI.out]) | (go_at_call 44; refine (val2_any x.to S w.heap.size _ (cell_old hg2 (hB2 1))).mono ?_; rintro e w' ⟨rfl, rfl⟩; rw [HI2.out]))
            · go_ret
              exact ⟨by rw [TA.valid]; dsimp only; rw [all_false HX.out (by rw [okLeaf, HI.out, HI2.out]; rfl)]; simp [errno], (hb1.trans (hbr.mono (by omega))).alloc (by omega) _⟩
            · go_roundw
              case rel => exact ⟨k + 1, by omega, by go_num, all_take_succ HX.out hall (by rw [okLeaf, HI.out, HI2.out]; rfl), hbr.alloc hbr.size _⟩
              case measure => simp [intOf]; omega
        · have HA2 := hide (all_done (by omega) hall)
          clear hall
          go_wp2_with fail
          go_loopw [66] (fun i wr2 => ∃ k : Nat, k ≤ br.length ∧ i = .int .i64 k ∧ (br.take k).all (okBranch L S) ∧ Below wr.heap.size wr wr2) (fun i _ => br.length - (intOf i).toNat)
          case atStart => exact ⟨0, Nat.zero_le _, rfl, by simp, Below.refl _ _⟩
          case round =>
            rename_i wr2
            obtain ⟨k, hk, rfl, hall, hbr2⟩ := hrel
            obtain ⟨hg3, hB3⟩ := box_later hbr2 hg2 hB2
            by_cases hlt : k < br.length
            · obtain ⟨b, off, x, rfl, hb, hx, hc⟩ := h3.at hlt
              have hcc := fun j hj => (hbr2.cell (by show b < _; omega)).trans ((hbr.cell (by show b < _; omega)).trans ((hb1.cell (by exact hb)).trans (hc j hj)))
              have hc0 := hcc 0 (by omega)
              have hc1 := hcc 1 (by omega)
              have hc2 := hcc 2 (by omega)
              have hc3 := hcc 3 (by omega)
              simp only [Nat.add_zero, encBr] at hc0 hc1 hc2 hc3
              clear hc hcc
              have HX := hide hx
              clear hx
              go_wp2_with (first | (go_at_call 43; refine (val1_any x.letter L w.heap.size _ (cell_old hg3 (hB3 0))).mono ?_; rintro e w' ⟨rfl, rfl⟩) | (go_at_call 44; refine (val2_any _ S w.heap.size _ (cell_old hg3 (hB3 1))).mono ?_; rintro e w' ⟨rfl, rfl⟩))
              all_goals try rw [Bool.not_eq_true] at *
              · go_ret
                exact ⟨by rw [TA.valid]; dsimp only; rw [all_false HX.out (by rw [okBranch]; simp_all)]; simp [errno], ((hb1.trans (hbr.mono (by omega))).trans (hbr2.mono (by omega))).alloc (by omega) _⟩
              · go_roundw
                case rel => exact ⟨k + 1, by omega, by go_num, all_take_succ HX.out hall (by rw [okBranch]; simp_all), hbr2.alloc hbr2.size _⟩
                case measure => simp [intOf]; omega
              all_goals
                go_ret
                exact ⟨by rw [TA.valid]; dsimp only; rw [all_false HX.out (by rw [okBranch]; simp_all)]; simp [errno], ((hb1.trans (hbr.mono (by omega))).trans (hbr2.mono (by omega))).alloc (by omega) _⟩
            · have HA3 := hide (all_done (by omega) hall)
              clear hall
              go_wp2_with fail
              go_ret
              exact ⟨by rw [TA.valid, HH.out]; dsimp only; rw [HA.out, HA2.out, HA3.out]; rfl, (hb1.trans (hbr.mono (by omega))).trans (hbr2.mono (by omega))⟩

set_option maxHeartbeats 1000000 in
theorem validate_any (v : Value) (a : TA) (w : World) (h : IsTA w w.heap.size v a) :
    Calls Try.prog 18 #[v] w fun e w' => e = .returned (.int .i64 (errno a.valid)) ∧ Below w.heap.size w w' := by
  by_cases hh : a.head = true
  · refine validate_head v a w h ?_
    simp [TA.head] at hh
    omega
  · obtain ⟨A1, c1, A2, c2, A3, c3, rfl, h1, h2, h3⟩ := h
    have hE : errno a.valid = 1 := by simp [TA.valid, hh, errno]
    rw [hE]
    have hcase : a.letters < 1 ∨ (1 ≤ a.letters ∧ 8 < a.letters) ∨ (1 ≤ a.letters ∧ a.letters ≤ 8 ∧ a.states < 0) ∨ (1 ≤ a.letters ∧ a.letters ≤ 8 ∧ 0 ≤ a.states ∧ 64 < a.states) := by
      simp [TA.head] at hh
      omega
    clear hh hE
    generalize a.letters = L at *
    generalize a.states = S at *
    rcases hcase with hc | hc | hc | hc
    all_goals
      go_enter Try.func18, Try.ntmps18
      go_wp2
      go_ret
      exact ⟨rfl, (Below.refl _ _).alloc (Nat.le_refl _) _⟩
end Go.Proofs.Ytnimlcbgeiajiaa

namespace Go.Proofs.Ytnimlcbgeiajiaa
open Go.RowKit

def setB (m : Nat) (q : Int) : Nat := mOr m (mPow q)
def brM (s t : Nat) (l : List Branch) : Nat := l.foldl (fun m e => if mBit s e.first && mBit t e.second then setB m e.to else m) 0
def accM (l : List Int) : Nat := l.foldl setB 0
def inS (q : Int) : Bool := inR q 0 64
theorem U64.setB {m : Nat} {q : Int} (h : U64 m) (hq : q < 64) : U64 (setB m q) := h.or (U64.pow hq)

theorem foldl_take {A B : Type} (f : A → B → A) (a : A) (l : List B) (k : Nat) (x : B) (h : l[k]? = some x) : (l.take (k + 1)).foldl f a = f ((l.take k).foldl f a) x := by
  rw [List.take_add_one, h]; simp
theorem foldl_all {A B : Type} (f : A → B → A) (a : A) (l : List B) (k : Nat) (h : l.length ≤ k) : (l.take k).foldl f a = l.foldl f a := by rw [List.take_of_length_le h]

def brCells (b : Branch) : List Value := [.int .i64 b.letter, .int .i64 b.first, .int .i64 b.second, .int .i64 b.to]
theorem flat4 (l : List Branch) : ∀ (k j : Nat) (b : Branch), l[k]? = some b → j < 4 → (l.flatMap brCells)[k * 4 + j]? = some (encBr b j) := by
  induction l with
  | nil => intro k j b h; simp at h
  | cons c l ih =>
    intro k j b h hj
    rw [List.flatMap_cons]
    cases k with
    | zero =>
      simp at h; subst h
      rw [List.getElem?_append_left (by simp [brCells]; omega)]
      match j, hj with
      | 0, _ => simp [brCells, encBr]
      | 1, _ => simp [brCells, encBr]
      | 2, _ => simp [brCells, encBr]
      | 3, _ => simp [brCells, encBr]
    | succ k =>
      simp at h
      rw [List.getElem?_append_right (by simp [brCells]; omega)]
      have := ih k j b h hj
      rw [show (k + 1) * 4 + j - (brCells c).length = k * 4 + j from by simp [brCells]; omega]
      exact this
theorem own_get4 {w : World} {base n : Nat} {e : TypeId} {v : Value} {r : List Branch} (h : w.ownsRow base e 4 v n (r.flatMap brCells)) (hn : r.length = n) {k : Nat} {b : Branch} (hk : r[k]? = some b) :
    ∃ g cap, v = .slice (some ⟨g, 0, none⟩) n cap ∧ ∀ j, j < 4 → w.cell? ⟨g, k * 4 + j, none⟩ = some (encBr b j) := by
  obtain ⟨hl, hx⟩ := h
  have hkl := lt_of_get hk
  rcases hx with ⟨_, rfl⟩ | ⟨g, cap, cur, rfl, hb, hh, hc, hm, hs, ht⟩
  · omega
  · refine ⟨g, cap, rfl, fun j hj => ?_⟩
    rw [cell_of_row w g _ cur e (0, 0) hh, ← flat4 r k j b hk hj, ← ht, List.getElem?_take]
    have : k * 4 + j < n * 4 := by omega
    simp [this]

set_option maxHeartbeats 1000000 in
theorem det1_any (x L c g gc : Nat) (m : Nat) (w : World) (hc : w.cell? ⟨gc, 0, none⟩ = some (.slice (some ⟨g, 0, none⟩) L c)) (hx : x < L) (hm : w.cell? ⟨g, x, none⟩ = some (.int .u64 (m : Int))) :
    Calls Try.prog 98 #[.int .i64 (x : Int), .pointer (some ⟨gc, 0, none⟩)] w fun e w' => e = .returned (.int .u64 (m : Int)) ∧ w = w' := by
  go_enter Try.func98, Try.ntmps98
  go_wp2
  go_ret
  exact ⟨rfl, rfl⟩

set_option maxHeartbeats 1000000 in
theorem det3_any (s m gc : Nat) (w : World) (hs : U64 s) (hm : U64 m) (hc : w.cell? ⟨gc, 0, none⟩ = some (.int .u64 (m : Int))) :
    Calls Try.prog 100 #[.int .u64 (s : Int), .pointer (some ⟨gc, 0, none⟩)] w fun e w' => e = .returned (.bool (mHit s m)) ∧ w = w' := by
  go_enter Try.func100, Try.ntmps100
  go_wp2
  go_ret
  exact ⟨rfl, rfl⟩

set_option maxHeartbeats 2000000 in
set_option maxRecDepth 100000 in
theorem det2_any (x L c g gc s t base : Nat) (u : Value) (r : List Branch) (w : World) (hc : w.cell? ⟨gc, 0, none⟩ = some (.slice (some ⟨g, 0, none⟩) L c)) (hx : x < L) (hu : w.cell? ⟨g, x, none⟩ = some u)
    (hr : w.ownsRow base 59 4 u r.length (r.flatMap brCells)) (hl : r.length ≤ 1000000) (hs : U64 s) (ht : U64 t) (hb : r.all (fun b => inS b.first && inS b.second && inS b.to) = true) :
    Calls Try.prog 99 #[.int .i64 (x : Int), .int .u64 (s : Int), .int .u64 (t : Int), .pointer (some ⟨gc, 0, none⟩)] w fun e w' => e = .returned (.int .u64 (brM s t r : Int)) ∧ Below w.heap.size w w' := by
  obtain ⟨A, cu, rfl⟩ := slice_of_own hr
  have HB := hide hb
  clear hb
  go_enter Try.func99, Try.ntmps99
  go_wp2
  go_loopw [8, 16] (fun m i wr => ∃ (k m' : Nat), k ≤ r.length ∧ i = .int .i64 (k : Int) ∧ m = .int .u64 (m' : Int) ∧ U64 m' ∧ Hid (m' = (r.take k).foldl (fun m e => if mBit s e.first && mBit t e.second then setB m e.to else m) 0) ∧ Below w.heap.size w wr) (fun _ i _ => r.length - (intOf i).toNat)
  case atStart => exact ⟨0, 0, Nat.zero_le _, rfl, rfl, U64.zero, rfl, Below.refl _ _⟩
  case round =>
    obtain ⟨k, m', hk, rfl, rfl, hm', hmm, hbw⟩ := hrel
    by_cases hlt : k < r.length
    · obtain ⟨b, hkb⟩ : ∃ b, r[k]? = some b := ⟨_, List.getElem?_eq_getElem hlt⟩
      obtain ⟨gr, cap, hv, hcells⟩ := own_get4 hr rfl hkb
      injection hv with hv _ _
      subst hv
      have hgr : gr < w.heap.size := own_lt (k := gr) hr rfl
      have hcc := fun j hj => (hbw.cell (p := ⟨gr, k * 4 + j, none⟩) hgr).trans (hcells j hj)
      have h0 := hcc 0 (by omega)
      have h1 := hcc 1 (by omega)
      have h2 := hcc 2 (by omega)
      have h3 := hcc 3 (by omega)
      simp only [encBr, Nat.add_zero] at h0 h1 h2 h3
      have hin := List.all_eq_true.1 HB.out b (List.mem_of_getElem? hkb)
      simp only [inS, inR, Bool.and_eq_true, decide_eq_true_eq] at hin
      have hf := foldl_take (fun m e => if mBit s e.first && mBit t e.second then setB m e.to else m) 0 r k b hkb
      have HF := hide hf
      have hsz := hbw.size
      clear hcc hcells hkb hf
      cases hb1 : mBit s b.first <;> cases hb2 : mBit t b.second
      all_goals
        have HB1 := hide hb1
        have HB2 := hide hb2
        go_wp2_with fail
        refine ⟨⟨k + 1, _, by omega, by go_num, rfl, ?_, ?_, hbw.alloc (by omega) _⟩, by simp [intOf]; omega⟩
        · first | exact hm' | exact hm'.setB hin.2.2
        · show _ = _
          rw [HF.out, HB1.out, HB2.out, ← hmm.out]
          rfl
    · have HE := hide (foldl_all (fun m e => if mBit s e.first && mBit t e.second then setB m e.to else m) 0 r k (by omega))
      rw [HE.out] at hmm
      go_wp2_with fail
      go_ret
      refine ⟨?_, hbw⟩
      rw [hmm.out]
      rfl
end Go.Proofs.Ytnimlcbgeiajiaa

namespace Go.Proofs.Ytnimlcbgeiajiaa
open Go.RowKit

def leafM (l : List Leaf) (x : Nat) : Nat := l.foldl (fun m e => if e.letter = (x : Int) then setB m e.to else m) 0
def byL (l : List Branch) (x : Nat) : List Branch := l.filter (fun b => b.letter = (x : Int))
def TA.leafS (a : TA) (x : Nat) : Nat := leafM a.leaves x
def TA.brS (a : TA) (x : Nat) (s t : Nat) : Nat := brM s t (byL a.branches x)
def TA.accS (a : TA) (s : Nat) : Bool := mHit s (accM a.accept)

/-! ## rows of branches -/
structure ByT (w : World) (base gy : Nat) (us : List Value) (rows : List (List Branch)) : Prop where
  blk : Blk w gy 24 us.toArray
  len : us.length = rows.length
  row : ∀ (i : Nat) (u : Value) (r : List Branch), us[i]? = some u → rows[i]? = some r → w.ownsRow base 59 4 u r.length (r.flatMap brCells)
  sep : ∀ (i j : Nat) (u u' : Value) (g : Nat), us[i]? = some u → us[j]? = some u' → u.ownBlock = some g → u'.ownBlock = some g → i = j

theorem ByT.new {w : World} {base gy L : Nat} (h : Blk w gy 24 (Array.replicate L (.slice none 0 0))) : ByT w base gy (List.replicate L (.slice none 0 0)) (List.replicate L []) := by
  refine ⟨by simpa using h, by simp, fun i u r hu hr => ?_, fun i j u u' g hu _ hg _ => ?_⟩
  · rw [List.getElem?_replicate] at hu hr
    split at hu <;> simp_all
    subst hu hr
    exact own_nil
  · rw [List.getElem?_replicate] at hu
    split at hu <;> simp_all
    subst hu
    simp [Value.ownBlock] at hg
theorem ByT.keep {w w' : World} {X : Nat → Prop} {base gy : Nat} {us : List Value} {rows : List (List Branch)} (h : ByT w base gy us rows) (hk : Kept w w' X) (hy : ¬ X gy) (h59 : ∀ g cs, X g → ¬ Blk w g 59 cs) : ByT w' base gy us rows :=
  ⟨h.blk.kept hk hy, h.len, fun i u r hu hr => own_ty hk (h.row i u r hu hr) h59, h.sep⟩
theorem ByT.add {w w1 : World} {base gy i : Nat} {us : List Value} {rows : List (List Branch)} {ui ui' : Value} {r : List Branch} {b : Branch} (h : ByT w base gy us rows) (hu : us[i]? = some ui) (hr : rows[i]? = some r)
    (hk : Kept w w1 (fun k => ui.ownBlock = some k)) (ho : w1.ownsRow base 59 4 ui' (r.length + 1) (r.flatMap brCells ++ brCells b)) (hm : Moved w ui ui') :
    ByT (w1.setCell ⟨gy, i, none⟩ ui') base gy (us.set i ui') (rows.set i (r ++ [b])) := by
  have hi := lt_of_get hr
  have hui := h.row i ui r hu hr
  have hgy : Blk w1 gy 24 us.toArray := h.blk.kept hk fun e => own_blk_ne hui h.blk (by decide) e
  have hks : Kept w1 (w1.setCell ⟨gy, i, none⟩ ui') (fun k => k = gy) := Kept.setCell (Kept.refl w1 (fun k => k = gy)) (p := ⟨gy, i, none⟩) (fun _ => rfl) _
  have h59 : ∀ g cs, g = gy → ¬ Blk w1 g 59 cs := fun g cs e hb => by subst e; exact hgy.ne_ hb (by decide) rfl
  refine ⟨by have := hgy.set_ i ui'; simpa using this, by simp [h.len], fun k u q hu' hq => ?_, fun k j u u' g hk1 hj1 hg hg' => ?_⟩
  · by_cases hki : k = i
    · subst hki
      rw [List.getElem?_set_self (by rw [h.len]; exact hi)] at hu'
      rw [List.getElem?_set_self hi] at hq
      injection hu' with hu'
      injection hq with hq
      subst hu' hq
      have := own_ty hks ho h59
      simpa using this
    · rw [List.getElem?_set_ne (fun e => hki e.symm)] at hu' hq
      exact own_ty hks (hk.ownsRow (h.row k u q hu' hq) fun g hg hx => hki (h.sep k i u ui g hu' hu hg hx)) h59
  · have aux : ∀ (k : Nat) (u : Value), (us.set i ui')[k]? = some u → (k = i ∧ u = ui') ∨ (k ≠ i ∧ us[k]? = some u) := fun k u hx => by
      by_cases hki : k = i
      · subst hki
        rw [List.getElem?_set_self (by rw [h.len]; exact hi)] at hx
        injection hx with hx
        exact .inl ⟨rfl, hx.symm⟩
      · rw [List.getElem?_set_ne (fun e => hki e.symm)] at hx
        exact .inr ⟨hki, hx⟩
    have old : ∀ (k : Nat) (u : Value), us[k]? = some u → u.ownBlock = some g → g < w.heap.size := fun k u hx hg => by
      obtain ⟨q, hq⟩ : ∃ q, rows[k]? = some q := ⟨_, List.getElem?_eq_getElem (by rw [← h.len]; exact lt_of_get hx)⟩
      exact own_lt (h.row k u q hx hq) hg
    have new : ∀ (k : Nat) (u : Value), k ≠ i → us[k]? = some u → u.ownBlock = some g → ui'.ownBlock = some g → False := fun k u hki hx hg hg' => by
      rcases hm with hm | ⟨g1, hm, hg1⟩
      · exact hki (h.sep k i u ui g hx hu hg (by rw [← hm]; exact hg'))
      · rw [hm] at hg'
        injection hg' with hg'
        have := old k u hx hg
        omega
    rcases aux k u hk1 with ⟨rfl, rfl⟩ | ⟨hki, hx⟩
    · rcases aux j u' hj1 with ⟨rfl, rfl⟩ | ⟨hji, hy⟩
      · rfl
      · exact (new j u' hji hy hg' hg).elim
    · rcases aux j u' hj1 with ⟨rfl, rfl⟩ | ⟨hji, hy⟩
      · exact (new k u hki hx hg hg').elim
      · exact h.sep k j u u' g hx hy hg hg'

/-- Branches by letter. -/
def byTo (L : Nat) (l : List Branch) : List (List Branch) := (List.range L).map fun x => byL l x
theorem byTo_nil (L : Nat) : byTo L [] = List.replicate L [] := by
  unfold byTo byL
  apply List.ext_getElem?
  intro i
  rw [List.getElem?_replicate, List.getElem?_map]
  by_cases h : i < L <;> simp [h]
theorem byTo_get {L x : Nat} (l : List Branch) (hx : x < L) : (byTo L l)[x]? = some (byL l x) := by
  unfold byTo
  simp [hx]
theorem byTo_snoc (L : Nat) (l : List Branch) (b : Branch) (x : Nat) (hb : b.letter = (x : Int)) (hx : x < L) : byTo L (l ++ [b]) = (byTo L l).set x (byL l x ++ [b]) := by
  apply List.ext_getElem?
  intro i
  unfold byTo
  by_cases h : i < L
  · by_cases hi : x = i
    · subst hi
      rw [List.getElem?_set_self (by simp [hx])]
      simp [h, byL, hb]
    · rw [List.getElem?_set_ne hi]
      have : b.letter ≠ (i : Int) := by omega
      simp [h, byL, this]
  · rw [List.getElem?_eq_none (by simp; omega), List.getElem?_eq_none (by simp; omega)]
def leafTo (L : Nat) (l : List Leaf) : List Nat := (List.range L).map fun x => leafM l x
theorem leafTo_nil (L : Nat) : leafTo L [] = List.replicate L 0 := by
  unfold leafTo leafM
  apply List.ext_getElem?
  intro i
  rw [List.getElem?_replicate]
  by_cases h : i < L <;> simp [h]
theorem leafTo_get {L x : Nat} (l : List Leaf) (hx : x < L) : (leafTo L l)[x]? = some (leafM l x) := by
  unfold leafTo
  simp [hx]
theorem leafTo_snoc (L : Nat) (l : List Leaf) (b : Leaf) (x : Nat) (hb : b.letter = (x : Int)) (hx : x < L) : leafTo L (l ++ [b]) = (leafTo L l).set x (setB (leafM l x) b.to) := by
  apply List.ext_getElem?
  intro i
  unfold leafTo
  by_cases h : i < L
  · by_cases hi : x = i
    · subst hi
      rw [List.getElem?_set_self (by simp [hx])]
      simp [h, leafM, hb]
    · rw [List.getElem?_set_ne hi]
      have : b.letter ≠ (i : Int) := by omega
      simp [h, leafM, this]
  · rw [List.getElem?_eq_none (by simp; omega), List.getElem?_eq_none (by simp; omega)]
theorem U64.fold {A : Type} {f : A → Int} {c : A → Bool} : ∀ (l : List A) {m : Nat}, U64 m → (∀ x ∈ l, f x < 64) → U64 (l.foldl (fun m e => if c e then Go.Proofs.Ytnimlcbgeiajiaa.setB m (f e) else m) m)
  | [], _, h, _ => h
  | x :: l, m, h, hl => by
    simp only [List.foldl_cons]
    refine U64.fold l ?_ fun y hy => hl y (List.mem_cons_of_mem _ hy)
    split
    · exact h.setB (hl x List.mem_cons_self)
    · exact h
theorem U64.accM {l : List Int} (hl : ∀ x ∈ l, x < 64) : U64 (accM l) := by
  have := U64.fold (f := fun x => x) (c := fun _ => true) l U64.zero hl
  unfold Go.Proofs.Ytnimlcbgeiajiaa.accM
  simpa using this
theorem U64.leafM {l : List Leaf} {x : Nat} (hl : ∀ e ∈ l, e.to < 64) : U64 (leafM l x) := by
  have := U64.fold (f := fun e => e.to) (c := fun e => decide (e.letter = (x : Int))) l U64.zero hl
  simpa [Go.Proofs.Ytnimlcbgeiajiaa.leafM] using this
theorem U64.brM {l : List Branch} {s t : Nat} (hl : ∀ e ∈ l, e.to < 64) : U64 (brM s t l) := by
  unfold Go.Proofs.Ytnimlcbgeiajiaa.brM
  exact U64.fold (f := fun e => e.to) (c := fun e => mBit s e.first && mBit t e.second) l U64.zero hl

theorem two_boxes (w : World) (cs : Array Value) (v : Value) : ∃ w1, (w.alloc (.cells cs 26)).alloc (.cells #[v] 70) = w1 ∧ Below w.heap.size w w1 ∧ Blk w1 w.heap.size 26 cs ∧ Blk w1 (w.heap.size + 1) 70 #[v] := by
  have h1 := Blk.new w 26 cs
  have h2 := Blk.new (w.alloc (.cells cs 26)) 70 #[v]
  simp at h2
  exact ⟨_, rfl, ((Below.refl _ _).alloc (Nat.le_refl _) _).alloc (by simp) _, h1.kept ((Kept.refl _ (fun _ => False)).alloc _) id, h2⟩

theorem mk_u64 (w : World) (n : Nat) (hn : n ≤ 100000) :
    ∃ g w1, (Instr.makeSlice 69 (.int .i64 n) (.int .i64 n)).run Try.prog w = .ok (.slice (some ⟨g, 0, none⟩) n n) w1 ∧ Blk w1 g 70 (Array.replicate n (.int .u64 0)) ∧ Below w.heap.size w w1 ∧ w.heap.size ≤ g :=
  mk_facts Try.underlying69 info70 rfl (by omega) w n hn
theorem info24 : (Try.prog.info? 24).map (fun i => (i.zero, i.size, i.bytes)) = some (some (.slice none 0 0), 1, 24) := by kernel_rfl
theorem mk_by (w : World) (n : Nat) (hn : n ≤ 100000) :
    ∃ g w1, (Instr.makeSlice 132 (.int .i64 n) (.int .i64 n)).run Try.prog w = .ok (.slice (some ⟨g, 0, none⟩) n n) w1 ∧ Blk w1 g 24 (Array.replicate n (.slice none 0 0)) ∧ Below w.heap.size w w1 ∧ w.heap.size ≤ g :=
  mk_facts Try.underlying132 info24 rfl (by omega) w n hn
theorem info59 : (Try.prog.info? 59).map (fun i => (i.zero, i.size, i.bytes)) = some (some (.agg #[.int .i64 0, .int .i64 0, .int .i64 0, .int .i64 0]), 4, 32) := by kernel_rfl
theorem row24 : RowTy Try.prog 24 59 4 := rowTy_of Try.underlying24 info59 rfl (by omega) (by omega)
theorem box_blk (w : World) (cs : Array Value) (t : TypeId) : ∃ w1, w.alloc (.cells cs t) = w1 ∧ Below w.heap.size w w1 ∧ Blk w1 w.heap.size t cs ∧ Kept w w1 (fun _ => False) :=
  ⟨_, rfl, (Below.refl _ _).alloc (Nat.le_refl _) _, Blk.new _ _ _, (Kept.refl _ _).alloc _⟩
theorem Blk.below {w w' : World} {g : Nat} {t : TypeId} {cs : Array Value} (h : Blk w g t cs) (hb : Below w.heap.size w w') : Blk w' g t cs := h.kept (Kept.of_below hb fun _ => False) id

theorem take_snoc {D : Type} {l : List D} {k : Nat} {x : D} (h : l[k]? = some x) : l.take (k + 1) = l.take k ++ [x] := by rw [List.take_add_one, h]; rfl
theorem filter_le {D : Type} (p : D → Bool) (l : List D) : (l.filter p).length ≤ l.length := List.length_filter_le p l
/-- The memory of determine: the parameter's box, the accepted states, the leaves' sets. -/
structure DetS (w wr : World) (g8 gl L m : Nat) (cs : Array Value) (lm : List Nat) : Prop where
  below : Below w.heap.size w wr
  box : Blk wr w.heap.size 26 cs
  acc : Blk wr (w.heap.size + 1) 70 #[.int .u64 (m : Int)]
  lvar : Blk wr g8 69 #[.slice (some ⟨gl, 0, none⟩) L L]
  larr : Blk wr gl 70 (lm.map encU).toArray
theorem DetS.kept {w wr w' : World} {X : Nat → Prop} {g8 gl L m : Nat} {cs : Array Value} {lm : List Nat} (h : DetS w wr g8 gl L m cs lm) (hk : Kept wr w' X) (hX : ∀ k, X k → w.heap.size ≤ k ∧ k ≠ w.heap.size ∧ k ≠ w.heap.size + 1 ∧ k ≠ g8 ∧ k ≠ gl) : DetS w w' g8 gl L m cs lm :=
  ⟨h.below.trans (hk.below h.below.size fun b hb hx => by have := (hX b hx).1; omega), h.box.kept hk fun hx => (hX _ hx).2.1 rfl, h.acc.kept hk fun hx => (hX _ hx).2.2.1 rfl, h.lvar.kept hk fun hx => (hX _ hx).2.2.2.1 rfl, h.larr.kept hk fun hx => (hX _ hx).2.2.2.2 rfl⟩
theorem DetS.same {w wr w' : World} {g8 gl L m : Nat} {cs : Array Value} {lm : List Nat} (h : DetS w wr g8 gl L m cs lm) (hk : Kept wr w' (fun _ => False)) : DetS w w' g8 gl L m cs lm := h.kept hk fun _ hx => hx.elim
theorem DetS.store {w wr : World} {g8 gl L m : Nat} {cs : Array Value} {lm : List Nat} (h : DetS w wr g8 gl L m cs lm) (hgl : w.heap.size + 1 < gl) (x z : Nat) : DetS w (wr.setCell ⟨gl, x, none⟩ (.int .u64 (z : Int))) g8 gl L m cs (lm.set x z) := by
  have hk := (Kept.refl wr (fun k => k = gl)).setCell (p := ⟨gl, x, none⟩) (fun _ => rfl) (.int .u64 (z : Int))
  refine ⟨h.below.setCell (by simp; omega) _, h.box.kept hk (by omega), h.acc.kept hk (by omega), h.lvar.kept hk (fun e => h.lvar.ne_ h.larr (by decide) e), ?_⟩
  have := h.larr.set_ x (.int .u64 (z : Int))
  simpa [encU] using this

theorem own_weak {w : World} {base base' size n : Nat} {e : TypeId} {v : Value} {xs : List Value} (h : w.ownsRow base e size v n xs) (hb : base' ≤ base) : w.ownsRow base' e size v n xs := by
  refine ⟨h.1, ?_⟩
  rcases h.2 with hx | ⟨g, cap, cur, rfl, h1, h2⟩
  · exact .inl hx
  · exact .inr ⟨g, cap, cur, rfl, by omega, h2⟩
theorem RowRow.weak {w : World} {base base' : Nat} {v : Value} {r : List (List Nat)} (h : RowRow w base v r) (hb : base' ≤ base) : RowRow w base' v r := by
  obtain ⟨us, h1, h2, h3⟩ := h
  exact ⟨us, h1, own_weak h2 hb, fun i u r hu hr => own_weak (h3 i u r hu hr) hb⟩
theorem Tab.weak {w : World} {base base' : Nat} {v : Value} {t : List (List (List Nat))} (h : Tab w base v t) (hb : base' ≤ base) : Tab w base' v t := by
  obtain ⟨us, h1, h2, h3, h4⟩ := h
  exact ⟨us, h1, own_weak h2 hb, fun i u r hu hr => (h3 i u r hu hr).weak hb, h4⟩
theorem Mach.weak {w : World} {base base' gM L : Nat} {ac : List Bool} {lf : List Nat} {t : List (List (List Nat))} (h : Mach w base gM L ac lf t) (hb : base' ≤ base) : Mach w base' gM L ac lf t := by
  obtain ⟨v1, v2, v3, h1, h2, h3, h4⟩ := h
  exact ⟨v1, v2, v3, h1, own_weak h2 hb, own_weak h3 hb, h4.weak hb⟩

/-- What building gives: no machine where there are too many states, else the machine of the states. -/
def Built (w' : World) (base L : Nat) (leaf : Nat → Nat) (br : Nat → Nat → Nat → Nat) (acc : Nat → Bool) (v : Value) : Prop :=
  ∃ l : List Nat, l.Nodup ∧ (∀ s ∈ l, Reach L leaf br s) ∧
    ((v = .pointer none ∧ 64 < l.length) ∨ ∃ gM lf t, v = .pointer (some ⟨gM, 0, none⟩) ∧ base ≤ gM ∧ Mach w' base gM L (l.map acc) lf t ∧ lf.length = L ∧ LeafOK leaf l lf ∧
      TabOK L br l (fun _ => l.length) t ∧ t.length = l.length ∧ l.length ≤ 64)

theorem det_clos {w wr wb : World} {g8 gl g11 gy L m : Nat} {cs : Array Value} {S : Int} {lv : List Leaf} {br : List Branch} {us : List Value} (hD : DetS w wr g8 gl L m cs (leafTo L lv)) (hB : Blk wr g11 132 #[.slice (some ⟨gy, 0, none⟩) L L]) (hY : ByT wr w.heap.size gy us (byTo L br)) (hm : U64 m)
    (hvL : ∀ x ∈ lv, okLeaf L S x = true) (hvB : ∀ x ∈ br, okBranch L S x = true) (hS : S ≤ 64) (hbig : br.length ≤ 900000) (hkb : Kept wr wb (fun _ => False)) :
    ClosU wb wr.heap.size L (.pointer (some ⟨g8, 0, none⟩)) (.pointer (some ⟨g11, 0, none⟩)) (.pointer (some ⟨w.heap.size + 1, 0, none⟩)) (leafM lv) (fun x s t => brM s t (byL br x)) (fun s => mHit s m) U64 := by
  have hx1 := hD.lvar.lt
  have hx2 := hD.larr.lt
  have hx3 := hD.acc.lt
  have hx4 := hB.lt
  have hx5 := hY.blk.lt
  have keep : ∀ w', Kept wb w' (fun k => k = wr.heap.size) → Kept wr w' (fun _ => False) := fun w' hk => hkb.trans hk fun b hb e => by omega
  refine ⟨fun w' hk x hx => ?_, fun w' hk x s t hx hs ht => ?_, fun w' hk s hs => ?_, fun x hx => ?_, fun x s t hx hs ht => ?_⟩
  · have hD' := hD.same (keep w' hk)
    refine Calls.ret_eq (v := .int .u64 (leafM lv x : Int)) ((det1_any x L L gl g8 (leafM lv x) w' (hD'.lvar.cell 0) hx ?_).mono fun e w'' ⟨he, hw⟩ => ⟨he, rfl, hw ▸ Below.refl _ _⟩)
    rw [hD'.larr.cell]
    have := leafTo_get lv hx
    simp [this, encU]
  · have hY' := hY.keep (keep w' hk) id fun _ _ h => h.elim
    have hB' := hB.kept (keep w' hk) id
    have hrx := byTo_get (L := L) br hx
    obtain ⟨ui, hui⟩ : ∃ ui, us[x]? = some ui := ⟨_, List.getElem?_eq_getElem (by rw [hY.len]; exact lt_of_get hrx)⟩
    have hrow := hY'.row x ui _ hui hrx
    have hle : (byL br x).length ≤ 900000 := by
      have h1 := filter_le (fun b : Branch => decide (b.letter = (x : Int))) br
      unfold byL
      omega
    refine Calls.ret_eq (v := .int .u64 (brM s t (byL br x) : Int)) ((det2_any x L L gy g11 s t w.heap.size ui (byL br x) w' (hB'.cell 0) hx ?_ hrow (by omega) hs ht ?_).mono fun e w'' ⟨he, hw⟩ => ⟨he, rfl, hw⟩)
    · rw [hY'.blk.cell]
      simpa using hui
    · rw [List.all_eq_true]
      intro b hb
      have h1 := hvB b (List.mem_filter.1 hb).1
      simp only [okBranch, inR, Bool.and_eq_true, decide_eq_true_eq] at h1
      simp only [inS, inR, Bool.and_eq_true, decide_eq_true_eq]
      omega
  · have hD' := hD.same (keep w' hk)
    exact Calls.ret_eq (v := .bool (mHit s m)) ((det3_any s m (w.heap.size + 1) w' hs hm (hD'.acc.cell 0)).mono fun e w'' ⟨he, hw⟩ => ⟨he, rfl, hw ▸ Below.refl _ _⟩)
  · exact U64.leafM fun e he => by
      have h1 := hvL e he
      simp only [okLeaf, inR, Bool.and_eq_true, decide_eq_true_eq] at h1
      omega
  · exact U64.brM fun e he => by
      have h1 := hvB e (List.mem_filter.1 he).1
      simp only [okBranch, inR, Bool.and_eq_true, decide_eq_true_eq] at h1
      omega

set_option maxHeartbeats 4000000 in
set_option maxRecDepth 100000 in
theorem determine_any (v : Value) (a : TA) (w : World) (h : IsTA w w.heap.size v a) (hv : a.valid = true) (hbig : a.branches.length ≤ 900000) :
    Calls Try.prog 73 #[v, .int .i64 64] w (Ret fun v w' => Below w.heap.size w w' ∧ Built w' w.heap.size a.letters.toNat a.leafS a.brS a.accS v) := by
  obtain ⟨A1, c1, A2, c2, A3, c3, rfl, h1, h2, h3⟩ := h
  obtain ⟨L, S, acc, lv, br⟩ := a
  simp only [TA.valid, TA.head, Bool.and_eq_true, decide_eq_true_eq, List.all_eq_true] at hv
  dsimp only at *
  obtain ⟨⟨⟨⟨⟨⟨hL1, hL8⟩, hS0⟩, hS64⟩, hvA⟩, hvL⟩, hvB⟩ := hv
  obtain ⟨L, rfl⟩ := Int.eq_ofNat_of_zero_le (by omega : 0 ≤ L)
  have hn1 := h1.1
  have hn2 := h2.1
  have hn3 := h3.1
  have HvA := hide hvA
  have HvL := hide hvL
  have HvB := hide hvB
  clear hvA hvL hvB
  go_enter Try.func73, Try.ntmps73
  go_wp2_with fail
  obtain ⟨w1, hw1, hb1, hB1, hA1⟩ := two_boxes w #[.int .i64 L, .int .i64 S, .slice A1 acc.length c1, .slice A2 lv.length c2, .slice A3 br.length c3] (.int .u64 0)
  rw [hw1]
  clear hw1
  go_loopw [18] (fun i wr => ∃ (k m : Nat), k ≤ acc.length ∧ i = .int .i64 (k : Int) ∧ U64 m ∧ Hid (m = (acc.take k).foldl setB 0) ∧ Below w.heap.size w wr ∧ Blk wr w.heap.size 26 #[.int .i64 L, .int .i64 S, .slice A1 acc.length c1, .slice A2 lv.length c2, .slice A3 br.length c3] ∧
    Blk wr (w.heap.size + 1) 70 #[.int .u64 (m : Int)]) (fun i _ => acc.length - (intOf i).toNat)
  case atStart => exact ⟨0, 0, Nat.zero_le _, rfl, U64.zero, rfl, hb1, hB1, hA1⟩
  case round =>
    obtain ⟨k, m, hk, rfl, hm, hmm, hbw, hBw, hAw⟩ := hrel
    have hcA := hAw.cell 0
    have hfA := hAw.frozen 0
    by_cases hlt : k < acc.length
    · obtain ⟨b, off, x, rfl, hb, hx, hc⟩ := h1.at hlt
      have hc0 := (hbw.cell (by exact hb)).trans (hc 0 (by omega))
      simp only [Nat.mul_one, Nat.add_zero, encI] at hc0
      have hin := HvA.out x (List.mem_of_getElem? hx)
      simp only [inR, Bool.and_eq_true, decide_eq_true_eq] at hin
      obtain ⟨hin0, hin1⟩ := hin
      have hin2 : x < 64 := by omega
      have hf := hide (foldl_take setB 0 acc k x hx)
      clear hc hx
      go_wp2_with fail
      refine Reg.region_ints' [0, 0, 2, 7, 15] (by kernel_rfl) (by repeat (first | exact Reg.NoQ.body (fun _ _ h => h) (fun _ h => h) | refine Reg.NoQ.then ?_ | refine Reg.NoQ.inBlock ?_)) ?_
      intro Qf hQf
      go_wp2_with fail
      refine ⟨rfl, ?_⟩
      go_wp2_with fail
      refine ⟨⟨k + 1, mOr m (mPow x), by omega, by go_num, hm.or (U64.pow hin2), ?_, (hbw.setCell (by simp) _).drew, ?_, hAw.set_ 0 _⟩, by simp [intOf]; omega⟩
      · show _ = _
        rw [hf.out, ← hmm.out]
        rfl
      · exact hBw.kept ((Kept.refl wr (fun k => k = w.heap.size + 1)).setCell (p := ⟨w.heap.size + 1, 0, none⟩) (fun _ => rfl) _).drew (by omega)
    · have HE := hide (foldl_all setB 0 acc k (by omega))
      rw [HE.out] at hmm
      have hcB := hBw.cell
      have hsz1 := hAw.lt
      obtain ⟨gl, w2, hmk, hMl, hb2, hgl⟩ := mk_u64 wr L (by omega)
      have hsz2 := hMl.lt
      have hcB2 := ((hBw.below hb2).kept ((Kept.refl w2 (fun _ => False)).alloc (.cells #[.slice (some ⟨gl, 0, none⟩) L L] 69)) id).cell
      clear h1 hB1 hA1 hb1 hn1
      go_wp2_with fail
      obtain ⟨w3, hw3, hb3, hB3, hk3⟩ := box_blk w2 #[.slice (some ⟨gl, 0, none⟩) L L] 69
      rw [hw3]
      clear hw3
      have hD0 : DetS w w3 w2.heap.size gl L m #[.int .i64 L, .int .i64 S, .slice A1 acc.length c1, .slice A2 lv.length c2, .slice A3 br.length c3] (leafTo L []) :=
        ⟨hbw.trans ((hb2.trans (hb3.mono hb2.size)).mono hbw.size), (hBw.below hb2).below hb3, (hAw.below hb2).below hb3, hB3, by
          have := hMl.below hb3
          rw [leafTo_nil]
          simpa [encU] using this⟩
      have hglb : w.heap.size + 1 < gl := by omega
      have hg8b : w.heap.size + 1 < w2.heap.size := by omega
      generalize w2.heap.size = g8 at *
      clear hmk hMl hb2 hcB2 hb3 hk3 hcB hcA hfA hBw hAw hbw hB3 hgl hsz2 hsz1
      have hmm2 := hmm
      clear hmm HE
      go_loopw [33] (fun i wr => ∃ (k : Nat), k ≤ lv.length ∧ i = .int .i64 (k : Int) ∧ DetS w wr g8 gl L m #[.int .i64 L, .int .i64 S, .slice A1 acc.length c1, .slice A2 lv.length c2, .slice A3 br.length c3] (leafTo L (lv.take k))) (fun i _ => lv.length - (intOf i).toNat)
      case atStart => exact ⟨0, Nat.zero_le _, rfl, hD0⟩
      case round =>
        obtain ⟨k2, hk2, rfl, hD⟩ := hrel
        have hcL := hD.lvar.cell 0
        have hsz1 := hD.lvar.lt
        have hsz2 := hD.larr.lt
        by_cases hlt2 : k2 < lv.length
        · obtain ⟨b, off, e, rfl, hb, hx, hc⟩ := h2.at hlt2
          have hcc := fun j hj => (hD.below.cell (by exact hb)).trans (hc j hj)
          have hc0 := hcc 0 (by omega)
          have hc1 := hcc 1 (by omega)
          simp only [Nat.add_zero, encL] at hc0 hc1
          have hin := HvL.out e (List.mem_of_getElem? hx)
          simp only [okLeaf, inR, Bool.and_eq_true, decide_eq_true_eq] at hin
          obtain ⟨⟨hi0, hi1⟩, hi2, hi3⟩ := hin
          obtain ⟨x, q⟩ := e
          dsimp only at *
          obtain ⟨x, rfl⟩ := Int.eq_ofNat_of_zero_le hi0
          have hi4 : q < 64 := by omega
          have hxL : x < L := by omega
          have hsn := hide (leafTo_snoc L (lv.take k2) ⟨x, q⟩ x rfl hxL)
          have hMx := hD.larr.cell x
          have hgx : (leafTo L (lv.take k2))[x]? = some (leafM (lv.take k2) x) := leafTo_get _ hxL
          have hMx2 : wr.cell? ⟨gl, x, none⟩ = some (.int .u64 (leafM (lv.take k2) x : Int)) := by
            rw [hMx]; simp [hgx, encU]
          have hfx := hD.larr.frozen x
          have hU : U64 (leafM (lv.take k2) x) := U64.leafM fun e he => by
            have := HvL.out e (List.mem_of_mem_take he)
            simp only [okLeaf, inR, Bool.and_eq_true, decide_eq_true_eq] at this
            omega
          have hHx := hide hx
          clear hcc hc hx hgx hMx
          go_wp2_with fail
          refine Reg.region_ints' [0, 0, 2, 7, 15, 0, 32, 96, 255, 511, 1023] (by kernel_rfl) (by repeat (first | exact Reg.NoQ.body (fun _ _ h => h) (fun _ h => h) | refine Reg.NoQ.then ?_ | refine Reg.NoQ.inBlock ?_)) ?_
          intro Qf hQf
          go_wp2_with fail
          refine ⟨rfl, ?_⟩
          go_wp2_with fail
          have hDa := hD.store hglb x (setB (leafM (lv.take k2) x) q)
          rw [← hsn.out, ← take_snoc hHx.out] at hDa
          exact ⟨⟨k2 + 1, by omega, by go_num, hDa.same (((Kept.refl _ (fun _ => False)).alloc _).drew)⟩, by simp [intOf]; omega⟩
        · have hcB := hD.box.cell
          have hkk := hide (List.take_of_length_le (by omega : lv.length ≤ k2))
          rw [hkk.out] at hD
          obtain ⟨gy, w5, hmk, hMy, hb5, hgy⟩ := mk_by wr L (by omega)
          have hsz3 := hMy.lt
          have hD5 := hD.kept (Kept.of_below hb5 (fun _ => False)) (fun _ h => h.elim)
          have hcB5 := (hD5.kept ((Kept.refl w5 (fun _ => False)).alloc (.cells #[.slice (some ⟨gy, 0, none⟩) L L] 132)) (fun _ h => h.elim)).box.cell
          clear h2 hn2 hD0
          go_wp2_with fail
          obtain ⟨w6, hw6, hb6, hB6, hk6⟩ := box_blk w5 #[.slice (some ⟨gy, 0, none⟩) L L] 132
          rw [hw6]
          clear hw6
          have hD6 := hD5.kept (Kept.of_below hb6 (fun _ => False)) (fun _ h => h.elim)
          have hY6 : ByT w6 w.heap.size gy (List.replicate L (.slice none 0 0)) (byTo L []) := by
            rw [byTo_nil]
            exact ByT.new (hMy.below hb6)
          have hsz4 := hb5.size
          have hsz5 := hb6.size
          have hgne : gy ≠ w5.heap.size := by omega
          have hgy2 : gl < gy := by omega
          have hgy3 : g8 < gy := by omega
          have hg11 : gl < w5.heap.size := by omega
          have hg12 : g8 < w5.heap.size := by omega
          generalize w5.heap.size = g11 at *
          clear hmk hMy hb5 hcB5 hb6 hk6 hcB hcL hD hD5 hsz1 hsz2 hsz3 hsz4 hsz5 hgy hkk
          go_loopw [54] (fun i wt => ∃ (k : Nat) (us : List Value), k ≤ br.length ∧ i = .int .i64 (k : Int) ∧ DetS w wt g8 gl L m #[.int .i64 L, .int .i64 S, .slice A1 acc.length c1, .slice A2 lv.length c2, .slice A3 br.length c3] (leafTo L lv) ∧
            Blk wt g11 132 #[.slice (some ⟨gy, 0, none⟩) L L] ∧ ByT wt w.heap.size gy us (byTo L (br.take k))) (fun i _ => br.length - (intOf i).toNat)
          case atStart => exact ⟨0, _, Nat.zero_le _, rfl, hD6, hB6, hY6⟩
          case round =>
            obtain ⟨k3, us, hk3, rfl, hD, hB, hY⟩ := hrel
            have hcY := hB.cell 0
            have hsz1 := hB.lt
            have hsz2 := hY.blk.lt
            by_cases hlt3 : k3 < br.length
            · obtain ⟨b, off, e, rfl, hb, hx, hc⟩ := h3.at hlt3
              have hcc := fun j hj => (hD.below.cell (by exact hb)).trans (hc j hj)
              have hc0 := hcc 0 (by omega)
              have hc1 := hcc 1 (by omega)
              have hc2 := hcc 2 (by omega)
              have hc3 := hcc 3 (by omega)
              simp only [Nat.add_zero, encBr] at hc0 hc1 hc2 hc3
              have hin := HvB.out e (List.mem_of_getElem? hx)
              simp only [okBranch, inR, Bool.and_eq_true, decide_eq_true_eq] at hin
              obtain ⟨⟨⟨⟨hi0, hi1⟩, -⟩, -⟩, -⟩ := hin
              obtain ⟨x, f1, f2, q⟩ := e
              dsimp only at *
              obtain ⟨x, rfl⟩ := Int.eq_ofNat_of_zero_le hi0
              have hxL : x < L := by omega
              have hsn := hide (byTo_snoc L (br.take k3) ⟨x, f1, f2, q⟩ x rfl hxL)
              have hrx := byTo_get (L := L) (br.take k3) hxL
              obtain ⟨ui, hui⟩ : ∃ ui, us[x]? = some ui := ⟨_, List.getElem?_eq_getElem (by rw [hY.len]; exact lt_of_get hrx)⟩
              have hrow := hY.row x ui _ hui hrx
              obtain ⟨Ai, ci, rfl⟩ := slice_of_own hrow
              have hcu : wr.cell? ⟨gy, x, none⟩ = some (.slice Ai (byL (br.take k3) x).length ci) := by rw [hY.blk.cell]; simpa using hui
              have hle : (byL (br.take k3) x).length ≤ 900000 := by
                have h1 := filter_le (fun b : Branch => decide (b.letter = (x : Int))) (br.take k3)
                have h2 := List.length_take_le k3 br
                unfold byL
                omega
              have hfx := hY.blk.frozen x
              have hHx := hide hx
              have hHui := hide hui
              have hHrx := hide hrx
              clear hcc hc hx hui hrx
              go_wp2_with fail
              refine Reg.region_cut [0, 0, 2, 0, 0, 16, 56, 120, 0, 256, 1016, 2047, 4095] [0, 1, 2, 3, 4, 5, 6, 7, 8, 9, 10, 11, 12] (by kernel_rfl) (by repeat (first | exact Reg.NoQ.body (fun _ _ h => h) (fun _ h => h) | refine Reg.NoQ.then ?_ | refine Reg.NoQ.inBlock ?_)) ?_
              refine Reg.rest_walk' [0, 1, 2, 3, 4, 5, 6, 7, 8, 9] [10, 11, 12] rfl (by kernel_rfl) ?_
              intro Qf hQf
              go_wp2_with fail
              rw [List.filterMap_nil]
              go_wp2_with fail
              refine Reg.rest_act' 10 [11, 12] [0, 2] rfl (by kernel_rfl) ?_
              intro Qf hQf
              simp only [List.getElem_toArray, List.getElem_cons_succ, List.getElem_cons_zero]
              have hKa : Kept wr (wr.alloc (.cells #[.int .i64 (x : Int), .int .i64 f1, .int .i64 f2, .int .i64 q] 59)).drew (fun _ => False) := ((Kept.refl wr _).alloc _).drew
              have h13 : Blk (wr.alloc (.cells #[.int .i64 (x : Int), .int .i64 f1, .int .i64 f2, .int .i64 q] 59)).drew wr.heap.size 59 #[.int .i64 (x : Int), .int .i64 f1, .int .i64 f2, .int .i64 q] := Blk.new wr 59 _
              have hDa := hD.same hKa
              have hBa := hB.kept hKa id
              have hYa := hY.keep hKa id (fun _ _ h => h.elim)
              have hra := hYa.row x _ _ hHui.out hHrx.out
              have hbase := hDa.below.size
              refine wpList_app_new (w := (wr.alloc (.cells #[.int .i64 (x : Int), .int .i64 f1, .int .i64 f2, .int .i64 q] 59)).drew) row24 rfl _ _ rfl w.heap.size (.slice Ai (byL (br.take k3) x).length ci) (byL (br.take k3) x).length _ rfl hra [.int .i64 (x : Int), .int .i64 f1, .int .i64 f2, .int .i64 q] 1 (by show Value.slice (some ⟨wr.heap.size + 1, 0, none⟩) 1 1 = _; simp) rfl (by simp [Value.oneCell']) (by omega) hbase ?_
              intro g cap' w7 hown7 hk7 hmv7 hg7
              have hX7 : ∀ k, (Value.slice Ai (byL (br.take k3) x).length ci).ownBlock = some k → w.heap.size ≤ k ∧ k ≠ w.heap.size ∧ k ≠ w.heap.size + 1 ∧ k ≠ g8 ∧ k ≠ gl := fun k hk =>
                ⟨own_base hra hk, fun e => own_blk_ne hra hDa.box (by decide) (by rw [← e]; exact hk), fun e => own_blk_ne hra hDa.acc (by decide) (by rw [← e]; exact hk), fun e => own_blk_ne hra hDa.lvar (by decide) (by rw [← e]; exact hk), fun e => own_blk_ne hra hDa.larr (by decide) (by rw [← e]; exact hk)⟩
              have hD7 := hDa.kept hk7 hX7
              have hB7 := hBa.kept hk7 (fun e => own_blk_ne hra hBa (by decide) e)
              have h137 : w7.cell? ⟨wr.heap.size, 0, none⟩ = some (.int .i64 (x : Int)) := by
                by_cases e : (Value.slice Ai (byL (br.take k3) x).length ci).ownBlock = some wr.heap.size
                · exfalso
                  have := own_lt hrow e
                  omega
                · exact (h13.kept hk7 e).cell 0
              have hYs := hYa.add hHui.out hHrx.out hk7 hown7 hmv7 (b := ⟨x, f1, f2, q⟩)
              rw [← hsn.out, ← take_snoc hHx.out] at hYs
              have hgy7 := hYa.blk.kept hk7 (fun e => own_blk_ne hra hYa.blk (by decide) e)
              have hcy7 : w7.cell? ⟨gy, x, none⟩ = some (.slice Ai (byL (br.take k3) x).length ci) := by rw [hgy7.cell]; simpa using hHui.out
              have hfy7 := hgy7.frozen x
              refine hQf _ _ ⟨?_, ?_⟩
              · intro z hz q hq
                simp only [List.mem_cons, List.not_mem_nil, or_false] at hz
                rcases hz with rfl | rfl
                · injection hq with hq
                  subst hq
                  exact Reg.same_load1 rfl rfl ((hBa.kept ((Kept.refl _ (fun _ => False)).alloc _) id).cell 0) (hB7.cell 0) Try.underlying132 rfl
                · injection hq with hq
                  subst hq
                  exact Reg.same_load1 rfl rfl ((h13.kept ((Kept.refl _ (fun _ => False)).alloc _) id).cell 0) h137 Try.underlying3 rfl
              · clear hQf
                refine Reg.rest_walk' [11, 12] [] rfl (by kernel_rfl) ?_
                intro Qf hQf
                go_wp2_with fail
                rw [List.filterMap_nil]
                go_wp2_with fail
                refine Reg.rest_end ?_
                go_wp2_with fail
                have hks := (Kept.refl w7 (fun k => k = gy)).setCell (p := ⟨gy, x, none⟩) (fun _ => rfl) (.slice (some ⟨g, 0, none⟩) ((byL (br.take k3) x).length + 1) cap')
                refine ⟨⟨k3 + 1, _, by omega, by go_num, hD7.kept hks (fun k e => by omega), hB7.kept hks (fun e => hgne e.symm), hYs⟩, by simp [intOf]; omega⟩
            · have hcB := hD.box.cell
              have hkk := hide (List.take_of_length_le (by omega : br.length ≤ k3))
              rw [hkk.out] at hY
              clear h3 hn3 hD6 hB6 hY6
              obtain ⟨wb, hwb, hbb, hBb, hkb⟩ := box_blk wr #[.int .i64 L, .int .i64 64, .map none, .slice none 0 0, .func (.func 98) #[] #[.pointer (some ⟨g8, 0, none⟩)], .func (.func 99) #[] #[.pointer (some ⟨g11, 0, none⟩)], .func (.func 100) #[] #[.pointer (some ⟨w.heap.size + 1, 0, none⟩)]] 138
              have hC := det_clos hD hB hY hm HvL.out HvB.out hS64 hbig hkb
              have hsz3 := hD.below.size
              have hCC := hide hC
              have hDD := hide hD
              have hWB := hide hwb
              clear hC hwb
              go_wp2_with fail
              rw [hWB.out]
              refine Calls.ret (buildU hCC.out (by omega) (by omega) hBb) ?_
              rintro v w9 ⟨hk9, hres⟩
              have hres9 := hide hres
              clear hres
              go_wp2_with fail
              have hbelow : Below w.heap.size w w9 := hDD.out.below.trans ((hkb.trans hk9 (fun b hb e => by omega)).below hsz3 fun _ _ h => h)
              go_ret
              refine ⟨hbelow, ?_⟩
              obtain ⟨l, h1, h2, h3⟩ := hres9.out
              have hme : m = accM acc := hmm2.out
              subst hme
              refine ⟨l, h1, h2, h3.imp id ?_⟩
              rintro ⟨gM, lf, t, h4, h5, h6, h7⟩
              have hsz4 := hbb.size
              exact ⟨gM, lf, t, h4, by omega, h6.weak (by omega), h7⟩
end Go.Proofs.Ytnimlcbgeiajiaa

namespace Go.Proofs.Ytnimlcbgeiajiaa

inductive Tr where
  | leaf (x : Nat)
  | node (x : Nat) (s t : Tr)
def Tr.ok (L : Nat) : Tr → Prop
  | .leaf x => x < L
  | .node x s t => x < L ∧ s.ok L ∧ t.ok L
def runT {S : Type} (leaf : Nat → S) (br : Nat → S → S → S) : Tr → S
  | .leaf x => leaf x
  | .node x s t => br x (runT leaf br s) (runT leaf br t)

theorem reach_run {S : Type} {L : Nat} {leaf : Nat → S} {br : Nat → S → S → S} {s : S} : Reach L leaf br s ↔ ∃ t : Tr, t.ok L ∧ runT leaf br t = s := by
  constructor
  · intro h
    induction h with
    | leaf x hx => exact ⟨.leaf x, hx, rfl⟩
    | br x a b hx _ _ iha ihb =>
      obtain ⟨t, ht, rfl⟩ := iha
      obtain ⟨u, hu, rfl⟩ := ihb
      exact ⟨.node x t u, ⟨hx, ht, hu⟩, rfl⟩
  · rintro ⟨t, ht, rfl⟩
    induction t with
    | leaf x => exact .leaf x ht
    | node x s t ihs iht => exact .br x _ _ ht.1 (ihs ht.2.1) (iht ht.2.2)

/-- Contexts of a depth do not tell two trees apart. -/
def EqT (L : Nat) (Λ : Tr → Bool) : Nat → Tr → Tr → Prop
  | 0, t, u => Λ t = Λ u
  | r + 1, t, u => EqT L Λ r t u ∧ ∀ x, x < L → ∀ c : Tr, c.ok L → EqT L Λ r (.node x t c) (.node x u c) ∧ EqT L Λ r (.node x c t) (.node x c u)
theorem EqT.rfl' {L : Nat} {Λ : Tr → Bool} (r : Nat) : ∀ t, EqT L Λ r t t := by
  induction r with
  | zero => exact fun _ => rfl
  | succ r ih => exact fun t => ⟨ih t, fun x _ c _ => ⟨ih _, ih _⟩⟩

/-- The same of the states of a machine, all of which are below n. -/
def EqS (L n : Nat) (br : Nat → Nat → Nat → Nat) (acc : Nat → Bool) : Nat → Nat → Nat → Prop
  | 0, p, q => acc p = acc q
  | r + 1, p, q => EqS L n br acc r p q ∧ ∀ x, x < L → ∀ k, k < n → EqS L n br acc r (br x p k) (br x q k) ∧ EqS L n br acc r (br x k p) (br x k q)

/-- A machine: all its states are below n, and each is the state of some tree. -/
structure IsM (L n : Nat) (leaf : Nat → Nat) (br : Nat → Nat → Nat → Nat) : Prop where
  leaf_lt : ∀ x, x < L → leaf x < n
  br_lt : ∀ x p q, x < L → p < n → q < n → br x p q < n
  reach : ∀ q, q < n → Reach L leaf br q

section
variable {L n : Nat} {leaf : Nat → Nat} {br : Nat → Nat → Nat → Nat} {acc : Nat → Bool}
theorem IsM.run_lt (h : IsM L n leaf br) : ∀ t : Tr, t.ok L → runT leaf br t < n
  | .leaf x, ht => h.leaf_lt x ht
  | .node x s t, ht => h.br_lt x _ _ ht.1 (h.run_lt s ht.2.1) (h.run_lt t ht.2.2)
theorem IsM.eqS (h : IsM L n leaf br) (r : Nat) : ∀ t u : Tr, t.ok L → u.ok L → (EqT L (fun t => acc (runT leaf br t)) r t u ↔ EqS L n br acc r (runT leaf br t) (runT leaf br u)) := by
  induction r with
  | zero => exact fun t u _ _ => Iff.rfl
  | succ r ih =>
    intro t u ht hu
    constructor
    · rintro ⟨h1, h2⟩
      refine ⟨(ih t u ht hu).1 h1, fun x hx k hk => ?_⟩
      obtain ⟨c, hc, rfl⟩ := reach_run.1 (h.reach k hk)
      obtain ⟨h3, h4⟩ := h2 x hx c hc
      exact ⟨(ih (.node x t c) (.node x u c) ⟨hx, ht, hc⟩ ⟨hx, hu, hc⟩).1 h3, (ih (.node x c t) (.node x c u) ⟨hx, hc, ht⟩ ⟨hx, hc, hu⟩).1 h4⟩
    · rintro ⟨h1, h2⟩
      refine ⟨(ih t u ht hu).2 h1, fun x hx c hc => ?_⟩
      obtain ⟨h3, h4⟩ := h2 x hx _ (h.run_lt c hc)
      exact ⟨(ih (.node x t c) (.node x u c) ⟨hx, ht, hc⟩ ⟨hx, hu, hc⟩).2 h3, (ih (.node x c t) (.node x c u) ⟨hx, hc, ht⟩ ⟨hx, hc, hu⟩).2 h4⟩
end
theorem EqT.congr {L : Nat} {Λ Λ' : Tr → Bool} (hΛ : ∀ t : Tr, t.ok L → Λ t = Λ' t) (r : Nat) : ∀ t u : Tr, t.ok L → u.ok L → EqT L Λ r t u → EqT L Λ' r t u := by
  induction r with
  | zero => exact fun t u ht hu h => ((hΛ t ht).symm.trans h).trans (hΛ u hu)
  | succ r ih => exact fun t u ht hu h => ⟨ih t u ht hu h.1, fun x hx c hc => ⟨ih (.node x t c) (.node x u c) ⟨hx, ht, hc⟩ ⟨hx, hu, hc⟩ (h.2 x hx c hc).1, ih (.node x c t) (.node x c u) ⟨hx, hc, ht⟩ ⟨hx, hc, hu⟩ (h.2 x hx c hc).2⟩⟩

/-! ## the canonical numbering -/
section
variable {S : Type} [DecidableEq S]
def leafL (L : Nat) (leaf : Nat → S) : List S := (List.range L).foldl (fun l x => meetL l (leaf x)) []
def stepB (br : Nat → S → S → S) (x : Nat) (l0 : List S) (a : S) (l : List S) : List S := l0.foldl (fun l b => meetL l (br x a b)) l
def stepA (br : Nat → S → S → S) (l0 : List S) (l : List S) (x : Nat) : List S := l0.foldl (fun l a => stepB br x l0 a l) l
def roundL (L : Nat) (br : Nat → S → S → S) (l0 : List S) : List S := (List.range L).foldl (stepA br l0) l0
def roundsL (L : Nat) (br : Nat → S → S → S) : Nat → List S → List S
  | 0, l => l
  | k + 1, l => roundsL L br k (roundL L br l)
/-- l is the list in the order in which the rounds find it. -/
def Disc (L : Nat) (leaf : Nat → S) (br : Nat → S → S → S) (l : List S) : Prop := (∃ k, l = roundsL L br k (leafL L leaf)) ∧ roundL L br l = l
end

inductive F2 {S T : Type} (R : S → T → Prop) : List S → List T → Prop
  | nil : F2 R [] []
  | cons {a b l m} : R a b → F2 R l m → F2 R (a :: l) (b :: m)
section
variable {S T : Type} {R : S → T → Prop}
theorem F2.length {l : List S} {m : List T} (h : F2 R l m) : l.length = m.length := by
  induction h with
  | nil => rfl
  | cons _ _ ih => simp [ih]
theorem F2.get {l : List S} {m : List T} (h : F2 R l m) : ∀ {i : Nat} {a : S} {b : T}, l[i]? = some a → m[i]? = some b → R a b := by
  induction h with
  | nil => intro i a b h; simp at h
  | cons h1 _ ih =>
    intro i a b ha hb
    cases i with
    | zero => simp at ha hb; subst ha hb; exact h1
    | succ i => simp at ha hb; exact ih ha hb
theorem F2.snoc {l : List S} {m : List T} (h : F2 R l m) {a : S} {b : T} (hab : R a b) : F2 R (l ++ [a]) (m ++ [b]) := by
  induction h with
  | nil => exact .cons hab .nil
  | cons h1 _ ih => exact .cons h1 ih
theorem F2.left {l : List S} {m : List T} (h : F2 R l m) {a : S} (ha : a ∈ l) : ∃ b, b ∈ m ∧ R a b := by
  induction h with
  | nil => cases ha
  | cons h1 _ ih =>
    rcases List.mem_cons.1 ha with rfl | ha
    · exact ⟨_, List.mem_cons_self, h1⟩
    · obtain ⟨b, hb, hR⟩ := ih ha
      exact ⟨b, List.mem_cons_of_mem _ hb, hR⟩
theorem F2.right {l : List S} {m : List T} (h : F2 R l m) {b : T} (hb : b ∈ m) : ∃ a, a ∈ l ∧ R a b := by
  induction h with
  | nil => cases hb
  | cons h1 _ ih =>
    rcases List.mem_cons.1 hb with rfl | hb
    · exact ⟨_, List.mem_cons_self, h1⟩
    · obtain ⟨a, ha, hR⟩ := ih hb
      exact ⟨a, List.mem_cons_of_mem _ ha, hR⟩
/-- Folds keep what their steps keep. -/
theorem F2.fold {A B : Type} {Q : A → B → Prop} {f : A → S → A} {g : B → T → B} {l : List S} {m : List T} (h : F2 R l m) (hs : ∀ x y a b, Q x y → R a b → Q (f x a) (g y b)) : ∀ {x : A} {y : B}, Q x y → Q (l.foldl f x) (m.foldl g y) := by
  induction h with
  | nil => exact fun hq => hq
  | cons h1 _ ih => exact fun hq => ih (hs _ _ _ _ hq h1)
end
theorem fold_rel {A B C : Type} {Q : A → B → Prop} {f : A → C → A} {g : B → C → B} : ∀ (l : List C), (∀ x y c, c ∈ l → Q x y → Q (f x c) (g y c)) → ∀ {x : A} {y : B}, Q x y → Q (l.foldl f x) (l.foldl g y)
  | [], _, _, _, hq => hq
  | c :: l, hs, x, y, hq => fold_rel l (fun x y d hd => hs x y d (List.mem_cons_of_mem _ hd)) (hs x y c List.mem_cons_self hq)

section
variable {S T : Type} [DecidableEq S] [DecidableEq T] {R : S → T → Prop}
/-- R is one to one. -/
def OneOne (R : S → T → Prop) : Prop := ∀ a b a' b', R a b → R a' b' → (a = a' ↔ b = b')
theorem F2.meet (hR : OneOne R) {l : List S} {m : List T} (h : F2 R l m) {a : S} {b : T} (hab : R a b) : F2 R (meetL l a) (meetL m b) := by
  have hi : a ∈ l ↔ b ∈ m := by
    constructor
    · intro ha
      obtain ⟨b', hb', h1⟩ := h.left ha
      rwa [(hR a b a b' hab h1).1 rfl]
    · intro hb
      obtain ⟨a', ha', h1⟩ := h.right hb
      rwa [(hR a b a' b hab h1).2 rfl]
  unfold meetL
  by_cases ha : a ∈ l
  · rw [if_pos ha, if_pos (hi.1 ha)]; exact h
  · rw [if_neg ha, if_neg (fun hb => ha (hi.2 hb))]; exact h.snoc hab
variable {L : Nat} {leaf : Nat → S} {br : Nat → S → S → S} {leaf' : Nat → T} {br' : Nat → T → T → T}
theorem leafL_rel (hR : OneOne R) (hl : ∀ x, x < L → R (leaf x) (leaf' x)) : F2 R (leafL L leaf) (leafL L leaf') :=
  fold_rel (Q := fun a b => F2 R a b) _ (fun _ _ x hx h => h.meet hR (hl x (List.mem_range.1 hx))) .nil
theorem roundL_rel (hR : OneOne R) (hb : ∀ x a b c d, x < L → R a c → R b d → R (br x a b) (br' x c d)) {l : List S} {m : List T} (h : F2 R l m) : F2 R (roundL L br l) (roundL L br' m) :=
  fold_rel (Q := fun a b => F2 R a b) _ (fun _ _ x hx h1 => h.fold (Q := fun a b => F2 R a b) (fun _ _ a c h2 hac => h.fold (Q := fun a b => F2 R a b) (fun _ _ b d h3 hbd => h3.meet hR (hb x a b c d (List.mem_range.1 hx) hac hbd)) h2) h1) h
theorem roundsL_rel (hR : OneOne R) (hb : ∀ x a b c d, x < L → R a c → R b d → R (br x a b) (br' x c d)) (k : Nat) : ∀ {l : List S} {m : List T}, F2 R l m → F2 R (roundsL L br k l) (roundsL L br' k m) := by
  induction k with
  | zero => exact fun h => h
  | succ k ih => exact fun h => ih (roundL_rel hR hb h)
omit [DecidableEq T] in
theorem roundsL_fix {l : List S} (h : roundL L br l = l) (k : Nat) : roundsL L br k l = l := by
  induction k with
  | zero => rfl
  | succ k ih => rw [roundsL, h, ih]
omit [DecidableEq T] in
theorem roundsL_add (j k : Nat) : ∀ l : List S, roundsL L br (j + k) l = roundsL L br k (roundsL L br j l) := by
  induction j with
  | zero => intro l; rw [Nat.zero_add]; rfl
  | succ j ih => intro l; rw [Nat.succ_add]; exact ih _
omit [DecidableEq T] in
theorem roundsL_succ' (k : Nat) (l : List S) : roundsL L br (k + 1) l = roundL L br (roundsL L br k l) := roundsL_add k 1 l
omit [DecidableEq T] in
theorem Disc.unique {l l' : List S} (h : Disc L leaf br l) (h' : Disc L leaf br l') : l = l' := by
  obtain ⟨⟨j, rfl⟩, hf⟩ := h
  obtain ⟨⟨k, rfl⟩, hf'⟩ := h'
  rcases Nat.le_total j k with hjk | hjk
  · obtain ⟨d, rfl⟩ := Nat.exists_eq_add_of_le hjk
    rw [roundsL_add, roundsL_fix hf]
  · obtain ⟨d, rfl⟩ := Nat.exists_eq_add_of_le hjk
    rw [roundsL_add, roundsL_fix hf']
theorem Disc.rel (hR : OneOne R) (hl : ∀ x, x < L → R (leaf x) (leaf' x)) (hb : ∀ x a b c d, x < L → R a c → R b d → R (br x a b) (br' x c d)) {l : List S} {m : List T} (h : Disc L leaf br l) (h' : Disc L leaf' br' m) : F2 R l m := by
  obtain ⟨⟨j, rfl⟩, hf⟩ := h
  obtain ⟨⟨k, rfl⟩, hf'⟩ := h'
  have h1 := roundsL_rel hR hb (j + k) (leafL_rel hR hl)
  rw [roundsL_add, roundsL_fix hf, Nat.add_comm, roundsL_add, roundsL_fix hf'] at h1
  exact h1
end

/-! What is in the list is what is reached. -/
section
variable {S : Type} [DecidableEq S] {L : Nat} {leaf : Nat → S} {br : Nat → S → S → S}
theorem fold_inv {A C : Type} {I : A → Prop} {f : A → C → A} : ∀ (l : List C), (∀ x c, c ∈ l → I x → I (f x c)) → ∀ {x : A}, I x → I (l.foldl f x)
  | [], _, _, hq => hq
  | c :: l, hs, x, hq => fold_inv l (fun x d hd => hs x d (List.mem_cons_of_mem _ hd)) (hs x c List.mem_cons_self hq)
theorem mid_stepB {l0 l : List S} {x : Nat} {a : S} (hx : x < L) (ha : a ∈ l0) (h : Mid L br l0 l) : Mid L br l0 (stepB br x l0 a l) := fold_inv (I := Mid L br l0) _ (fun _ _ hb h => h.meet hx ha hb) h
theorem mid_stepA {l0 l : List S} {x : Nat} (hx : x < L) (h : Mid L br l0 l) : Mid L br l0 (stepA br l0 l x) := fold_inv (I := Mid L br l0) _ (fun _ _ ha h => mid_stepB hx ha h) h
theorem mid_roundL {l0 : List S} (hn : l0.Nodup) : Mid L br l0 (roundL L br l0) := fold_inv (I := Mid L br l0) _ (fun _ _ hx h => mid_stepA (List.mem_range.1 hx) h) (Mid.refl hn)
theorem fold_mem {A C : Type} {f : List A → C → List A} (hf : ∀ l c, l <+: f l c) : ∀ (l : List C) (m : List A), m <+: l.foldl f m
  | [], _ => List.prefix_refl _
  | c :: l, m => (hf m c).trans (fold_mem hf l _)
theorem pre_stepB (x : Nat) (l0 : List S) (a : S) (l : List S) : l <+: stepB br x l0 a l := fold_mem (fun _ _ => prefix_meetL _ _) _ _
theorem pre_stepA (l0 : List S) (l : List S) (x : Nat) : l <+: stepA br l0 l x := fold_mem (fun _ _ => pre_stepB _ _ _ _) _ _
theorem fold_has {A C : Type} {f : List A → C → List A} (hf : ∀ l c, l <+: f l c) {s : A} : ∀ (l : List C) (c : C), c ∈ l → (∀ m, s ∈ f m c) → ∀ m, s ∈ l.foldl f m
  | d :: l, c, hc, hs, m => by
    rcases List.mem_cons.1 hc with rfl | hc
    · exact (fold_mem hf l _).subset (hs m)
    · exact fold_has hf l c hc hs _
theorem roundL_has {l0 : List S} {x : Nat} {a b : S} (hx : x < L) (ha : a ∈ l0) (hb : b ∈ l0) : br x a b ∈ roundL L br l0 :=
  fold_has (f := stepA br l0) (fun l x => pre_stepA l0 l x) _ x (List.mem_range.2 hx) (fun m => fold_has (f := fun l a => stepB br x l0 a l) (fun l a => pre_stepB x l0 a l) _ a ha
    (fun m => fold_has (f := fun l b => meetL l (br x a b)) (fun _ _ => prefix_meetL _ _) _ b hb (fun _ => mem_meetL.2 (.inr rfl)) m) m) _
theorem leafL_has {x : Nat} (hx : x < L) : leaf x ∈ leafL L leaf := fold_has (f := fun l x => meetL l (leaf x)) (fun _ _ => prefix_meetL _ _) _ x (List.mem_range.2 hx) (fun _ => mem_meetL.2 (.inr rfl)) _
theorem leafL_ok : (leafL L leaf).Nodup ∧ ∀ s ∈ leafL L leaf, Reach L leaf br s :=
  fold_inv (I := fun l => List.Nodup l ∧ ∀ s ∈ l, Reach L leaf br s) _ (fun l x hx h => ⟨nodup_meetL h.1 _, fun s hs => (mem_meetL.1 hs).elim (h.2 s) fun e => e ▸ .leaf x (List.mem_range.1 hx)⟩) ⟨List.nodup_nil, by simp⟩
theorem roundsL_ok (k : Nat) : ∀ l : List S, l.Nodup → (∀ s ∈ l, Reach L leaf br s) → (roundsL L br k l).Nodup ∧ (∀ s ∈ roundsL L br k l, Reach L leaf br s) ∧ l <+: roundsL L br k l := by
  induction k with
  | zero => exact fun l h h' => ⟨h, h', List.prefix_refl _⟩
  | succ k ih =>
    intro l h h'
    have hm := mid_roundL (L := L) (br := br) h
    obtain ⟨h1, h2, h3⟩ := ih _ hm.nodup (hm.reach h')
    exact ⟨h1, h2, hm.pre.trans h3⟩
theorem Disc.nodup {l : List S} (h : Disc L leaf br l) : l.Nodup := by
  obtain ⟨⟨k, rfl⟩, _⟩ := h
  exact (roundsL_ok (leaf := leaf) k _ (leafL_ok (br := br)).1 leafL_ok.2).1
theorem Disc.mem {l : List S} (h : Disc L leaf br l) (s : S) : s ∈ l ↔ Reach L leaf br s := by
  have hfix := h.2
  obtain ⟨⟨k, hk⟩, _⟩ := h
  constructor
  · intro hs
    subst hk
    exact (roundsL_ok (leaf := leaf) k _ (leafL_ok (br := br)).1 leafL_ok.2).2.1 s hs
  · intro hs
    induction hs with
    | leaf x hx =>
      subst hk
      exact (roundsL_ok (leaf := leaf) k _ (leafL_ok (br := br)).1 leafL_ok.2).2.2.subset (leafL_has hx)
    | br x a b hx _ _ iha ihb =>
      have := roundL_has (br := br) hx iha ihb
      rwa [hfix] at this
end

/-! ## the canonical machine -/
structure Canon (L n : Nat) (leaf : Nat → Nat) (br : Nat → Nat → Nat → Nat) (acc : Nat → Bool) (Λ : Tr → Bool) : Prop where
  isM : IsM L n leaf br
  lang : ∀ t : Tr, t.ok L → acc (runT leaf br t) = Λ t
  sep : ∀ t u : Tr, t.ok L → u.ok L → (∀ r, EqT L Λ r t u) → runT leaf br t = runT leaf br u
  ord : Disc L leaf br (List.range n)

theorem Canon.same {L n : Nat} {leaf : Nat → Nat} {br : Nat → Nat → Nat → Nat} {acc : Nat → Bool} {Λ : Tr → Bool} (h : Canon L n leaf br acc Λ) {t u : Tr} (ht : t.ok L) (hu : u.ok L) (he : runT leaf br t = runT leaf br u) (r : Nat) : EqT L Λ r t u := by
  refine EqT.congr h.lang r t u ht hu ((h.isM.eqS r t u ht hu).2 ?_)
  rw [he]
  exact (h.isM.eqS (acc := acc) r u u hu hu).1 (EqT.rfl' r u)

/-- A language has one canonical machine. -/
theorem Canon.unique {L n n' : Nat} {leaf leaf' : Nat → Nat} {br br' : Nat → Nat → Nat → Nat} {acc acc' : Nat → Bool} {Λ Λ' : Tr → Bool} (h : Canon L n leaf br acc Λ) (h' : Canon L n' leaf' br' acc' Λ') (hΛ : ∀ t : Tr, t.ok L → Λ t = Λ' t) :
    n = n' ∧ (∀ x, x < L → leaf x = leaf' x) ∧ (∀ x p q, x < L → p < n → q < n → br x p q = br' x p q) ∧ ∀ q, q < n → acc q = acc' q := by
  have hR : OneOne (fun p q : Nat => ∃ t : Tr, t.ok L ∧ runT leaf br t = p ∧ runT leaf' br' t = q) := by
    rintro _ _ _ _ ⟨t, ht, rfl, rfl⟩ ⟨u, hu, rfl, rfl⟩
    constructor
    · exact fun e => h'.sep t u ht hu fun r => EqT.congr hΛ r t u ht hu (h.same ht hu e r)
    · exact fun e => h.sep t u ht hu fun r => EqT.congr (fun t ht => (hΛ t ht).symm) r t u ht hu (h'.same ht hu e r)
  have hF := Disc.rel hR (fun x hx => ⟨.leaf x, hx, rfl, rfl⟩) (by
    rintro x _ _ _ _ hx ⟨t, ht, rfl, rfl⟩ ⟨u, hu, rfl, rfl⟩
    exact ⟨.node x t u, ⟨hx, ht, hu⟩, rfl, rfl⟩) h.ord h'.ord
  have hn : n = n' := by simpa using hF.length
  subst hn
  have hd : ∀ p, p < n → ∃ t : Tr, t.ok L ∧ runT leaf br t = p ∧ runT leaf' br' t = p := fun p hp => hF.get (i := p) (by simp [hp]) (by simp [hp])
  have hs : ∀ t : Tr, t.ok L → runT leaf br t = runT leaf' br' t := fun t ht => by
    obtain ⟨u, hu, h1, h2⟩ := hd _ (h.isM.run_lt t ht)
    have := (hR _ _ _ _ ⟨t, ht, rfl, rfl⟩ ⟨u, hu, rfl, rfl⟩).1 h1.symm
    rw [this, h2]
  refine ⟨rfl, fun x hx => hs (.leaf x) hx, fun x p q hx hp hq => ?_, fun q hq => ?_⟩
  · obtain ⟨t, ht, h1, h1'⟩ := hd p hp
    obtain ⟨u, hu, h2, h2'⟩ := hd q hq
    have := hs (.node x t u) ⟨hx, ht, hu⟩
    simp only [runT, h1, h2, h1', h2'] at this
    exact this
  · obtain ⟨t, ht, h1, h1'⟩ := hd q hq
    have := (h.lang t ht).trans ((hΛ t ht).trans (h'.lang t ht).symm)
    rwa [h1, h1'] at this
end Go.Proofs.Ytnimlcbgeiajiaa

namespace Go.Proofs.Ytnimlcbgeiajiaa
open Go.RowKit

def mleaf (lf : List Nat) (x : Nat) : Nat := lf.getD x 0
def mbr (t : List (List (List Nat))) (x i j : Nat) : Nat := ((t.getD i []).getD j []).getD x 0
def macc (ac : List Bool) (i : Nat) : Bool := ac.getD i false

/-- Lists that are a machine. -/
structure MOK (L : Nat) (ac : List Bool) (lf : List Nat) (t : List (List (List Nat))) : Prop where
  lfl : lf.length = L
  tl : t.length = ac.length
  rl : ∀ (i : Nat) (r : List (List Nat)), t[i]? = some r → r.length = ac.length ∧ ∀ (j : Nat) (row : List Nat), r[j]? = some row → row.length = L
  isM : IsM L ac.length (mleaf lf) (mbr t)

theorem getD_some {D : Type} {l : List D} {i : Nat} {x d : D} (h : l[i]? = some x) : l.getD i d = x := by rw [List.getD_eq_getElem?_getD, h]; rfl
theorem get_lt {D : Type} {l : List D} {i : Nat} (h : i < l.length) : ∃ x, l[i]? = some x := ⟨_, List.getElem?_eq_getElem h⟩

theorem MOK.cell {L : Nat} {ac : List Bool} {lf : List Nat} {t : List (List (List Nat))} (h : MOK L ac lf t) {i j x : Nat} (hi : i < ac.length) (hj : j < ac.length) (hx : x < L) :
    ∃ r row, t[i]? = some r ∧ r.length = ac.length ∧ r[j]? = some row ∧ row.length = L ∧ row[x]? = some (mbr t x i j) := by
  obtain ⟨r, hr⟩ := get_lt (l := t) (i := i) (by rw [h.tl]; exact hi)
  obtain ⟨h1, h2⟩ := h.rl i r hr
  obtain ⟨row, hrow⟩ := get_lt (l := r) (i := j) (by rw [h1]; exact hj)
  have h3 := h2 j row hrow
  obtain ⟨e, he⟩ := get_lt (l := row) (i := x) (by rw [h3]; exact hx)
  refine ⟨r, row, hr, h1, hrow, h3, ?_⟩
  unfold mbr
  rw [getD_some hr, getD_some hrow, getD_some he, he]

/-- The cells of a machine's table. -/
theorem MachA.at {w : World} {base gM L : Nat} {vacc vleaf vbr : Value} {ac : List Bool} {lf : List Nat} {t : List (List (List Nat))} (hM : MachA w base gM L vacc vleaf vbr ac lf t) (hok : MOK L ac lf t) {i j x : Nat} (hi : i < ac.length) (hj : j < ac.length) (hx : x < L) :
    ∃ gv cv gi ci gj cj, vbr = .slice (some ⟨gv, 0, none⟩) ac.length cv ∧ w.cell? ⟨gv, i, none⟩ = some (.slice (some ⟨gi, 0, none⟩) ac.length ci) ∧ w.cell? ⟨gi, j, none⟩ = some (.slice (some ⟨gj, 0, none⟩) L cj) ∧ w.cell? ⟨gj, x, none⟩ = some (.int .i64 (mbr t x i j : Int)) := by
  obtain ⟨r, row, hr, hrl, hrow, hrowl, he⟩ := hok.cell hi hj hx
  obtain ⟨us, hu⟩ := hM.tab.open
  have hul := hu.len
  obtain ⟨ui, hui⟩ := get_lt (l := us) (i := i) (by rw [hul]; exact lt_of_get hr)
  obtain ⟨gv, cv, rfl, hc1⟩ := own_get hu.own hui
  obtain ⟨uis, h1, h2, h3⟩ := hu.row i ui r hui hr
  obtain ⟨uj, huj⟩ := get_lt (l := uis) (i := j) (by rw [h1]; exact lt_of_get hrow)
  obtain ⟨gi, ci, rfl, hc2⟩ := own_get h2 huj
  have hI := h3 j uj row huj hrow
  obtain ⟨gj, cj, rfl, hc3⟩ := own_get hI (map_get (f := encN) he)
  refine ⟨gv, cv, gi, ci, gj, cj, by rw [hok.tl], by rw [← hrl]; exact hc1, by rw [← hrowl]; exact hc2, hc3⟩

/-! ## what was built -/
theorem built_get {L : Nat} {leaf : Nat → Nat} {br : Nat → Nat → Nat → Nat} {l lf : List Nat} {t : List (List (List Nat))} (hl : lf.length = L) (hlf : LeafOK leaf l lf) (ht : TabOK L br l (fun _ => l.length) t) (htl : t.length = l.length) :
    (∀ x, x < L → l[mleaf lf x]? = some (leaf x)) ∧ ∀ x i j s u, x < L → l[i]? = some s → l[j]? = some u → l[mbr t x i j]? = some (br x s u) := by
  refine ⟨fun x hx => ?_, fun x i j s u hx hi hj => ?_⟩
  · obtain ⟨e, he⟩ := get_lt (l := lf) (i := x) (by omega)
    unfold mleaf
    rw [getD_some he]
    exact hlf x e he
  · obtain ⟨r, hr⟩ := get_lt (l := t) (i := i) (by rw [htl]; exact lt_of_get hi)
    obtain ⟨h1, h2⟩ := ht i r hr
    obtain ⟨row, hrow⟩ := get_lt (l := r) (i := j) (by rw [h1]; exact lt_of_get hj)
    obtain ⟨h3, h4⟩ := h2 j row hrow
    obtain ⟨e, he⟩ := get_lt (l := row) (i := x) (by omega)
    obtain ⟨s', u', e1, e2, e3⟩ := h4 x e he
    rw [hi] at e1; rw [hj] at e2
    injection e1 with e1; injection e2 with e2
    subst e1 e2
    unfold mbr
    rw [getD_some hr, getD_some hrow, getD_some he]
    exact e3

/-- What a builder built is a machine; its runs are the runs over the states. -/
theorem built_ok {L : Nat} {leaf : Nat → Nat} {br : Nat → Nat → Nat → Nat} {acc : Nat → Bool} {l lf : List Nat} {t : List (List (List Nat))} (hn : l.Nodup) (hR : ∀ s ∈ l, Reach L leaf br s) (hl : lf.length = L) (hlf : LeafOK leaf l lf)
    (ht : TabOK L br l (fun _ => l.length) t) (htl : t.length = l.length) :
    MOK L (l.map acc) lf t ∧ (∀ tr : Tr, tr.ok L → l[runT (mleaf lf) (mbr t) tr]? = some (runT leaf br tr)) ∧ ∀ tr : Tr, tr.ok L → macc (l.map acc) (runT (mleaf lf) (mbr t) tr) = acc (runT leaf br tr) := by
  obtain ⟨hx, hb⟩ := built_get hl hlf ht htl
  have hrun : ∀ tr : Tr, tr.ok L → l[runT (mleaf lf) (mbr t) tr]? = some (runT leaf br tr) := by
    intro tr
    induction tr with
    | leaf x => exact fun h => hx x h
    | node x s u ihs ihu => exact fun h => hb x _ _ _ _ h.1 (ihs h.2.1) (ihu h.2.2)
  refine ⟨⟨hl, by simp [htl], fun i r hr => ?_, ⟨fun x h => ?_, fun x p q h hp hq => ?_, fun q hq => ?_⟩⟩, hrun, fun tr h => ?_⟩
  · obtain ⟨h1, h2⟩ := ht i r hr
    exact ⟨by simpa using h1, fun j row hrow => (h2 j row hrow).1⟩
  · have := lt_of_get (hx x h)
    simpa using this
  · obtain ⟨s, hs⟩ := get_lt (l := l) (i := p) (by simpa using hp)
    obtain ⟨u, hu⟩ := get_lt (l := l) (i := q) (by simpa using hq)
    have := lt_of_get (hb x p q s u h hs hu)
    simpa using this
  · obtain ⟨s, hs⟩ := get_lt (l := l) (i := q) (by simpa using hq)
    obtain ⟨tr, h1, h2⟩ := reach_run.1 (hR s (List.mem_of_getElem? hs))
    have h3 := hrun tr h1
    rw [h2] at h3
    have : runT (mleaf lf) (mbr t) tr = q := by
      exact (List.getElem?_inj (lt_of_get h3) hn).1 (h3.trans hs.symm)
    exact reach_run.2 ⟨tr, h1, this⟩
  · unfold macc
    exact getD_some (map_get (hrun tr h))
end Go.Proofs.Ytnimlcbgeiajiaa

namespace Go.Proofs.Ytnimlcbgeiajiaa
open Go.RowKit

section
variable {P : Program} {ops : Array Oper} {rest : List Oper} {o : Oper} {a : Act} {Q : Exit → Act → World → Prop}
theorem wpList_app_news {w : World} {t e size : Nat} (R : RowTy P t e size) (hgd : o.guard = none) (s x : Operand)
    (ho : o.op = .call { callee := .builtin .append, args := #[s, x], argTypes := #[t, t] })
    (base : Nat) (v : Value) (n : Nat) (xs : List Value) (hs : a.eval s = v) (hown : w.ownsRow base e size v n xs) (cs : List Value) (m c : Nat)
    (hx : a.eval x = .slice (some ⟨w.heap.size, 0, none⟩) m c) (hl : cs.length = m * size) (h1 : ∀ u ∈ cs, u.oneCell' = true) (hm : 0 < m)
    (hn : n + m ≤ 1000000) (hbase : base ≤ w.heap.size)
    (h : ∀ g cap w', w'.ownsRow base e size (.slice (some ⟨g, 0, none⟩) (n + m) cap) (n + m) (xs ++ cs) → Kept w w' (fun k => v.ownBlock = some k) → Moved w v (.slice (some ⟨g, 0, none⟩) (n + m) cap) → g < w'.heap.size →
      wpList P ops Q rest (a.put o.dst (.slice (some ⟨g, 0, none⟩) (n + m) cap)) w') :
    wpList P ops Q (o :: rest) a (w.alloc (.cells cs.toArray e)) := by
  refine wpList_app R hgd s x ho base v n xs hs (hown.alloc _) ⟨w.heap.size, 0, none⟩ m c cs hx hl ?_ h1 hm hn (by simp; omega) ?_
  · intro j u hj
    have hadd : (⟨w.heap.size, 0, none⟩ : Addr).add j = ⟨w.heap.size, j, none⟩ := by unfold Addr.add; split <;> simp_all
    rw [hadd, cell_of_row _ w.heap.size j cs.toArray e (0, 0) (heap_alloc_new w _)]
    simpa using hj
  · intro g cap w' hown' hk hmv hg
    refine h g cap w' hown' (((Kept.refl w (fun k => v.ownBlock = some k)).alloc (.cells cs.toArray e)).trans hk fun b _ hb => hb) ?_ hg
    rcases hmv with hmv | ⟨g', hmv, hg'⟩
    · exact .inl hmv
    · refine .inr ⟨g', hmv, ?_⟩
      simp at hg'
      omega
end

def encY (b : UInt8) : Value := .int .u8 (b.toNat : Int)
def b8 (n : Nat) : Nat := (UInt8.ofNat n).toNat
def n8 (n : Nat) : Nat := n / 256
def bts (n : Nat) : List UInt8 := [UInt8.ofNat n, UInt8.ofNat (n8 n)]
theorem conv_b8 (w : World) (n : Nat) : (convert 3 5 (.int .i64 (n : Int))).run Try.prog w = .ok (.int .u8 (b8 n : Int)) w := by
  have h := run_convert_int (P := Try.prog) w 3 5 .i64 (n : Int) (by kernel_rfl) (by kernel_rfl)
  have hk : Try.prog.intKind 5 = .u8 := by kernel_rfl
  rw [h, hk, IntKind.wrap_u8']
  unfold b8
  simp
theorem bop_shr8 (t : TypeId) (n : Nat) : binOp .shr t (.int .i64 (n : Int)) (.int .u64 8) = pure (.int .i64 (n8 n : Int)) := by
  rw [binOp_shr, shift_shr_any _ _ _ _ (by omega)]
  unfold n8
  rfl
attribute [go_sem high] conv_b8 bop_shr8
theorem bts_inj {m n : Nat} (hm : m < 65536) (hn : n < 65536) (h : bts m = bts n) : m = n := by
  unfold bts n8 at h
  simp only [List.cons.injEq, and_true] at h
  obtain ⟨h1, h2⟩ := h
  have e1 := congrArg UInt8.toNat h1
  have e2 := congrArg UInt8.toNat h2
  simp at e1 e2
  omega
theorem bts_length (n : Nat) : (bts n).length = 2 := rfl

/-- The piece of a sign for a second state and all letters. -/
def sgX (cl : List Nat) (t : List (List (List Nat))) (i j x : Nat) : List UInt8 := bts (cl.getD (mbr t x i j) 0) ++ bts (cl.getD (mbr t x j i) 0)
def sgJ (L : Nat) (cl : List Nat) (t : List (List (List Nat))) (i j : Nat) : List UInt8 := (List.range L).flatMap (sgX cl t i j)
def sgn (L n : Nat) (cl : List Nat) (t : List (List (List Nat))) (i : Nat) : List UInt8 := bts (cl.getD i 0) ++ (List.range n).flatMap (sgJ L cl t i)
theorem sgX_length (cl : List Nat) (t : List (List (List Nat))) (i j x : Nat) : (sgX cl t i j x).length = 4 := rfl
theorem flatMap_len {A B : Type} (f : A → List B) (k : Nat) (hf : ∀ a, (f a).length = k) (l : List A) : (l.flatMap f).length = l.length * k := by
  induction l with
  | nil => simp
  | cons a l ih => rw [List.flatMap_cons, List.length_append, hf, ih, List.length_cons, Nat.succ_mul, Nat.add_comm]
theorem sgJ_length (L : Nat) (cl : List Nat) (t : List (List (List Nat))) (i j : Nat) : (sgJ L cl t i j).length = L * 4 := by
  unfold sgJ
  rw [flatMap_len _ 4 (fun x => sgX_length cl t i j x), List.length_range]
theorem flat_inj {A B : Type} {f g : A → List B} {k : Nat} (hf : ∀ a, (f a).length = k) (hg : ∀ a, (g a).length = k) : ∀ {l : List A}, l.flatMap f = l.flatMap g → ∀ a ∈ l, f a = g a
  | b :: l, h, a, ha => by
    rw [List.flatMap_cons, List.flatMap_cons] at h
    have h2 := List.append_inj h ((hf b).trans (hg b).symm)
    rcases List.mem_cons.1 ha with rfl | ha
    · exact h2.1
    · exact flat_inj hf hg h2.2 a ha
/-- Equal signs. -/
theorem sgn_iff {L n : Nat} {cl : List Nat} {t : List (List (List Nat))} {i i' : Nat} (hc : ∀ k, cl.getD k 0 < 65536) :
    sgn L n cl t i = sgn L n cl t i' ↔ cl.getD i 0 = cl.getD i' 0 ∧ ∀ x, x < L → ∀ k, k < n → cl.getD (mbr t x i k) 0 = cl.getD (mbr t x i' k) 0 ∧ cl.getD (mbr t x k i) 0 = cl.getD (mbr t x k i') 0 := by
  constructor
  · intro h
    have h1 := List.append_inj h rfl
    refine ⟨bts_inj (hc _) (hc _) h1.1, fun x hx k hk => ?_⟩
    have h2 := flat_inj (sgJ_length L cl t i) (sgJ_length L cl t i') h1.2 k (List.mem_range.2 hk)
    have h3 := flat_inj (sgX_length cl t i k) (sgX_length cl t i' k) h2 x (List.mem_range.2 hx)
    have h4 := List.append_inj h3 rfl
    exact ⟨bts_inj (hc _) (hc _) h4.1, bts_inj (hc _) (hc _) h4.2⟩
  · rintro ⟨h1, h2⟩
    unfold sgn
    rw [h1]
    congr 1
    have : ∀ k, k < n → sgJ L cl t i k = sgJ L cl t i' k := fun k hk => by
      unfold sgJ
      have : ∀ x, x < L → sgX cl t i k x = sgX cl t i' k x := fun x hx => by
        unfold sgX
        rw [(h2 x hx k hk).1, (h2 x hx k hk).2]
      exact flat_congr fun x hx => this x (List.mem_range.1 hx)
    exact flat_congr fun k hk => this k (List.mem_range.1 hk)
where flat_congr {A B : Type} {f g : A → List B} : ∀ {l : List A}, (∀ a ∈ l, f a = g a) → l.flatMap f = l.flatMap g
  | [], _ => rfl
  | a :: l, h => by rw [List.flatMap_cons, List.flatMap_cons, h a List.mem_cons_self, flat_congr fun b hb => h b (List.mem_cons_of_mem _ hb)]

theorem info5 : (Try.prog.info? 5).map (fun i => (i.zero, i.size, i.bytes)) = some (some (.int .u8 0), 1, 1) := by kernel_rfl
theorem row161 : RowTy Try.prog 161 5 1 := rowTy_of Try.underlying161 info5 rfl (by omega) (by omega)
theorem blk_ty {w : World} {k t t' : Nat} {cs cs' : Array Value} (h : Blk w k t cs) (h' : Blk w k t' cs') : t = t' := by
  unfold Blk at h h'
  rw [h] at h'
  injection h' with h'
  injection h' with _ h2
/-- A machine is untouched where only a row of another type changes. -/
theorem MachA.row {w w' : World} {base gM L : Nat} {vacc vleaf vbr : Value} {ac : List Bool} {lf : List Nat} {t : List (List (List Nat))} (hM : MachA w base gM L vacc vleaf vbr ac lf t) {v : Value} {b e size n : Nat} {xs : List Value} (ho : w.ownsRow b e size v n xs) (he : e ≠ 82 ∧ e ≠ 4 ∧ e ≠ 3 ∧ e ≠ 22 ∧ e ≠ 104)
    (hk : Kept w w' (fun k => v.ownBlock = some k)) : MachA w' base gM L vacc vleaf vbr ac lf t :=
  hM.keep hk fun k t cs hx hb => by
    obtain ⟨cs', hb'⟩ := own_blk ho hx
    have := blk_ty hb hb'
    subst this
    exact he
theorem Kept.moved {w w' w'' : World} {v v' : Value} (hK : Kept w w' (fun k => v.ownBlock = some k)) (hm : Moved w v v') (hk : Kept w' w'' (fun k => v'.ownBlock = some k)) : Kept w w'' (fun k => v.ownBlock = some k) :=
  hK.trans hk fun b hb hx => by
    rcases hm with h | ⟨g, h, hg⟩
    · rw [← h]; exact hx
    · rw [h] at hx
      injection hx with hx
      omega
theorem rangeSnoc {A : Type} (f : Nat → List A) (k : Nat) : (List.range (k + 1)).flatMap f = (List.range k).flatMap f ++ f k := by
  rw [List.range_succ, List.flatMap_append]; simp
end Go.Proofs.Ytnimlcbgeiajiaa

namespace Go.Proofs.Ytnimlcbgeiajiaa
open Go.RowKit

set_option maxHeartbeats 4000000 in
set_option maxRecDepth 100000 in
theorem ref_inner {w : World} {base base2 B gM L gc cc i j : Nat} {vacc vleaf vbr vb : Value} {ac : List Bool} {lf cl : List Nat} {t : List (List (List Nat))} (hM : MachA w base gM L vacc vleaf vbr ac lf t) (hok : MOK L ac lf t)
    (hcl : w.ownsRow base2 3 1 (.slice (some ⟨gc, 0, none⟩) ac.length cc) ac.length (cl.map encN)) (hL : L ≤ 8) (_ : ac.length ≤ 20000) (hi : i < ac.length) (hj : j < ac.length)
    {bs : List UInt8} (hb : w.ownsRow B 5 1 vb bs.length (bs.map encY)) (hbl : bs.length ≤ 700000) (hB : B ≤ w.heap.size)
    {u2 u3 u4 u5 u6 u7 u11 u12 u13 u14 u15 u16 u17 u18 u19 u20 u21 u22 u23 u24 u25 u26 u27 u28 u29 u30 u31 u32 u33 u34 u35 u36 u37 u38 u39 u40 u41 u42 u43 u44 u47 u48 u49 u50 u51 u52 u53 u54 u55 u56 u57 u58 u59 u60 u61 u62 u63 u64 u65 u66 u67 u68 u69 u70 u71 u72 u73 u74 u75 u76 u77 u78 u79 u80 u81 u82 u83 u84 u85 u86 u87 u88 u89 u90 u91 u92 u93 u94 u95 u96 u97 u98 u99 u100 u101 u102 u103 u104 u105 u106 u107 u108 u109 u110 u111 u112 u113 u114 u115 u116 u117 u118 : Value}
    {Q : Exit → Act → World → Prop} (hN : Reg.NoQ Q)
    (hQ : ∀ (x11 x12 x13 x46 x47 x48 x49 x50 x51 x52 x53 x54 x55 x56 x57 x58 x59 x60 x61 x62 x63 x64 x65 x66 x67 x68 x69 x70 x71 x72 x73 x74 x75 x76 x77 x78 x79 x80 x81 x82 x83 x84 x85 x86 x87 x88 x89 x90 x91 x92 x93 x94 : Value) (w' : World) (vb' : Value), Kept w w' (fun k => vb.ownBlock = some k) → Moved w vb vb' → w'.ownsRow B 5 1 vb' (bs ++ sgJ L cl t i j).length ((bs ++ sgJ L cl t i j).map encY) →
      Q (.exit 4) ⟨List.toArray ((.pointer (some ⟨gM, 0, none⟩)) :: (.slice (some ⟨gc, 0, none⟩) ac.length cc) :: u2 :: u3 :: u4 :: u5 :: u6 :: u7 :: (.int .i64 i) :: vb' :: (.int .i64 j) :: x11 :: x12 :: x13 :: u14 :: u15 :: u16 :: u17 :: u18 :: u19 :: u20 :: u21 :: u22 :: u23 :: u24 :: u25 :: 
      u26 :: u27 :: u28 :: u29 :: u30 :: u31 :: u32 :: u33 :: u34 :: u35 :: u36 :: u37 :: u38 :: u39 :: u40 :: u41 :: u42 :: u43 :: u44 :: (.int .i64 L) :: x46 :: x47 :: x48 :: x49 :: x50 :: x51 :: x52 :: x53 :: x54 :: x55 :: x56 :: x57 :: x58 :: x59 :: x60 :: x61 :: 
      x62 :: x63 :: x64 :: x65 :: x66 :: x67 :: x68 :: x69 :: x70 :: x71 :: x72 :: x73 :: x74 :: x75 :: x76 :: x77 :: x78 :: x79 :: x80 :: x81 :: x82 :: x83 :: x84 :: x85 :: x86 :: x87 :: x88 :: x89 :: x90 :: x91 :: x92 :: x93 :: x94 :: u95 :: u96 :: u97 :: u98 :: 
      u99 :: u100 :: u101 :: u102 :: u103 :: u104 :: u105 :: u106 :: u107 :: u108 :: u109 :: u110 :: u111 :: u112 :: u113 :: u114 :: u115 :: u116 :: u117 :: u118 :: []), []⟩ w') :
    (Code.loop (loopBody Try.f107 2)).wp Try.prog Q ⟨List.toArray ((.pointer (some ⟨gM, 0, none⟩)) :: (.slice (some ⟨gc, 0, none⟩) ac.length cc) :: u2 :: u3 :: u4 :: u5 :: u6 :: u7 :: (.int .i64 i) :: vb :: (.int .i64 j) :: u11 :: u12 :: u13 :: u14 :: u15 :: u16 :: u17 :: u18 :: u19 :: u20 :: u21 :: u22 :: u23 :: u24 :: u25 :: 
      u26 :: u27 :: u28 :: u29 :: u30 :: u31 :: u32 :: u33 :: u34 :: u35 :: u36 :: u37 :: u38 :: u39 :: u40 :: u41 :: u42 :: u43 :: u44 :: (.int .i64 L) :: (.int .i64 0) :: u47 :: u48 :: u49 :: u50 :: u51 :: u52 :: u53 :: u54 :: u55 :: u56 :: u57 :: u58 :: u59 :: 
      u60 :: u61 :: u62 :: u63 :: u64 :: u65 :: u66 :: u67 :: u68 :: u69 :: u70 :: u71 :: u72 :: u73 :: u74 :: u75 :: u76 :: u77 :: u78 :: u79 :: u80 :: u81 :: u82 :: u83 :: u84 :: u85 :: u86 :: u87 :: u88 :: u89 :: u90 :: u91 :: u92 :: u93 :: u94 :: u95 :: u96 :: 
      u97 :: u98 :: u99 :: u100 :: u101 :: u102 :: u103 :: u104 :: u105 :: u106 :: u107 :: u108 :: u109 :: u110 :: u111 :: u112 :: u113 :: u114 :: u115 :: u116 :: u117 :: u118 :: []), []⟩ w := by
  conv => arg 2; arg 1; whnf
  go_loopw [9, 46] (fun vv xx wr => ∃ (x : Nat), xx = .int .i64 (x : Int) ∧ x ≤ L ∧ Kept w wr (fun k => vb.ownBlock = some k) ∧ Moved w vb vv ∧ wr.ownsRow B 5 1 vv (bs ++ (List.range x).flatMap (sgX cl t i j)).length ((bs ++ (List.range x).flatMap (sgX cl t i j)).map encY)) (fun _ xx _ => L - (intOf xx).toNat)
  case atStart => exact ⟨0, rfl, Nat.zero_le _, Kept.refl _ _, Moved.refl _ _, by simpa using hb⟩
  case round =>
    obtain ⟨x, rfl, hx, hK, hmv, hbw⟩ := hrel
    obtain ⟨A, c, rfl⟩ := slice_of_own hbw
    have hok2 := hide hok
    clear hok
    by_cases hlt : x < L
    · have hM' := hM.row hb (by decide) hK
      obtain ⟨gv, cv, gi, ci, gj, cj, rfl, h1, h2, h3⟩ := hM'.at hok2.out hi hj hlt
      obtain ⟨gv', cv', gi', ci', gj', cj', hv, h4, h5, h6⟩ := hM'.at hok2.out hj hi hlt
      injection hv with hv1 _ hv3
      injection hv1 with hv1
      injection hv1 with hv1
      subst hv1 hv3
      have hcm := hM'.blk.cell
      have hcl' := own_ty hK hcl (not_blk hb (by decide))
      have hp : mbr t x i j < ac.length := hok2.out.isM.br_lt x i j hlt hi hj
      have hq : mbr t x j i < ac.length := hok2.out.isM.br_lt x j i hlt hj hi
      have hll := hcl.1
      have hlen : cl.length = ac.length := by simpa using hll
      obtain ⟨p, hpg⟩ := get_lt (l := cl) (i := mbr t x i j) (by omega)
      obtain ⟨q, hqg⟩ := get_lt (l := cl) (i := mbr t x j i) (by omega)
      have hcp := own_cell hcl' (map_get (f := encN) hpg)
      have hcq := own_cell hcl' (map_get (f := encN) hqg)
      simp only [encN] at hcp hcq
      have hsx : Hid (sgX cl t i j x = bts p ++ bts q) := by
        show _ = _
        unfold sgX
        rw [getD_some hpg, getD_some hqg]
      have hlb : (bs ++ (List.range x).flatMap (sgX cl t i j)).length ≤ 700032 := by
        rw [List.length_append, flatMap_len _ 4 (fun x => sgX_length cl t i j x), List.length_range]; omega
      have hKs := hK.size
      clear hll hlen hpg hqg
      generalize hbs' : (bs ++ (List.range x).flatMap (sgX cl t i j)) = bs' at *
      have hbse := hide hbs'
      clear hbs'
      go_wp2_with fail
      refine Reg.region_plain [0, 0, 2, 6, 14, 0, 62, 126, 0, 510, 1022, 0, 4094, 8190, 16383, 32767, 0, 0, 131072, 393216, 917504, 0, 4063232, 8257536, 0, 33423360, 66977792, 0, 268304384, 536739840, 1073676288, 2147418112, 65535, 8589934591] (by kernel_rfl) (by repeat (first | exact hN | refine Reg.NoQ.then ?_ | refine Reg.NoQ.inBlock ?_)) ?_
      go_wp2_with (at_builtin; refine wpList_app_news (w := wr.drew) row161 rfl _ _ rfl B (.slice A bs'.length c) bs'.length _ rfl hbw [.int .u8 (b8 p : Int), .int .u8 (b8 (n8 p) : Int), .int .u8 (b8 q : Int), .int .u8 (b8 (n8 q) : Int)] 4 4 rfl rfl (by simp [Value.oneCell']) (by omega) (by omega) (Nat.le_trans hB hKs) ?_; intro g cap' w3 hown hk3 hmv3 hg3)
      have hk4 : Kept wr w3 (fun k => (Value.slice A bs'.length c).ownBlock = some k) := ⟨hk3.os, hk3.tape, hk3.output, hk3.size, hk3.block⟩
      refine ⟨⟨x + 1, by simp, by omega, hK.moved hmv hk4, hmv.trans hKs hmv3, ?_⟩, by simp [intOf]; omega⟩
      rw [rangeSnoc, ← List.append_assoc, hbse.out, hsx.out]
      simpa [bts, encY, b8] using hown
    · have e : x = L := by omega
      have he := hide e
      clear e
      go_wp2_with fail
      refine hQ _ _ _ _ _ _ _ _ _ _ _ _ _ _ _ _ _ _ _ _ _ _ _ _ _ _ _ _ _ _ _ _ _ _ _ _ _ _ _ _ _ _ _ _ _ _ _ _ _ _ _ _ wr _ hK hmv ?_
      have e2 := he.out
      subst e2
      exact hbw
end Go.Proofs.Ytnimlcbgeiajiaa

namespace Go.Proofs.Ytnimlcbgeiajiaa
open Go.RowKit

set_option maxHeartbeats 4000000 in
set_option maxRecDepth 100000 in
theorem ref_middle {w : World} {base base2 B gM L gc cc i : Nat} {vacc vleaf vbr vb : Value} {ac : List Bool} {lf cl : List Nat} {t : List (List (List Nat))} (hM : MachA w base gM L vacc vleaf vbr ac lf t) (hok : MOK L ac lf t)
    (hcl : w.ownsRow base2 3 1 (.slice (some ⟨gc, 0, none⟩) ac.length cc) ac.length (cl.map encN)) (hL : L ≤ 8) (hn : ac.length ≤ 20000) (hi : i < ac.length)
    {bs : List UInt8} (hb : w.ownsRow B 5 1 vb bs.length (bs.map encY)) (hbl : bs.length ≤ 2) (hB : B ≤ w.heap.size)
    {u2 u3 u4 u5 u6 u7 u10 u11 u12 u13 u14 u15 u16 u17 u18 u19 u20 u21 u22 u23 u24 u25 u26 u27 u28 u29 u30 u31 u32 u33 u34 u35 u36 u37 u40 u41 u42 u43 u44 u45 u46 u47 u48 u49 u50 u51 u52 u53 u54 u55 u56 u57 u58 u59 u60 u61 u62 u63 u64 u65 u66 u67 u68 u69 u70 u71 u72 u73 u74 u75 u76 u77 u78 u79 u80 u81 u82 u83 u84 u85 u86 u87 u88 u89 u90 u91 u92 u93 u94 u95 u96 u97 u98 u99 u100 u101 u102 u103 u104 u105 u106 u107 u108 u109 u110 u111 u112 u113 u114 u115 u116 u117 u118 : Value}
    {Q : Exit → Act → World → Prop} (hN : Reg.NoQ Q)
    (hQ : ∀ (x10 x11 x12 x13 x39 x40 x41 x42 x43 x44 x45 x46 x47 x48 x49 x50 x51 x52 x53 x54 x55 x56 x57 x58 x59 x60 x61 x62 x63 x64 x65 x66 x67 x68 x69 x70 x71 x72 x73 x74 x75 x76 x77 x78 x79 x80 x81 x82 x83 x84 x85 x86 x87 x88 x89 x90 x91 x92 x93 x94 x95 : Value) (w' : World) (vb' : Value), Kept w w' (fun k => vb.ownBlock = some k) → Moved w vb vb' → w'.ownsRow B 5 1 vb' (bs ++ (List.range ac.length).flatMap (sgJ L cl t i)).length ((bs ++ (List.range ac.length).flatMap (sgJ L cl t i)).map encY) →
      Q (.exit 2) ⟨List.toArray ((.pointer (some ⟨gM, 0, none⟩)) :: (.slice (some ⟨gc, 0, none⟩) ac.length cc) :: u2 :: u3 :: u4 :: u5 :: u6 :: u7 :: (.int .i64 i) :: vb' :: x10 :: x11 :: x12 :: x13 :: u14 :: u15 :: u16 :: u17 :: u18 :: u19 :: u20 :: u21 :: u22 :: u23 :: u24 :: u25 :: u26 :: 
      u27 :: u28 :: u29 :: u30 :: u31 :: u32 :: u33 :: u34 :: u35 :: u36 :: u37 :: (.int .i64 ac.length) :: x39 :: x40 :: x41 :: x42 :: x43 :: x44 :: x45 :: x46 :: x47 :: x48 :: x49 :: x50 :: x51 :: x52 :: x53 :: x54 :: x55 :: x56 :: x57 :: x58 :: x59 :: x60 :: x61 :: 
      x62 :: x63 :: x64 :: x65 :: x66 :: x67 :: x68 :: x69 :: x70 :: x71 :: x72 :: x73 :: x74 :: x75 :: x76 :: x77 :: x78 :: x79 :: x80 :: x81 :: x82 :: x83 :: x84 :: x85 :: x86 :: x87 :: x88 :: x89 :: x90 :: x91 :: x92 :: x93 :: x94 :: x95 :: u96 :: u97 :: u98 :: 
      u99 :: u100 :: u101 :: u102 :: u103 :: u104 :: u105 :: u106 :: u107 :: u108 :: u109 :: u110 :: u111 :: u112 :: u113 :: u114 :: u115 :: u116 :: u117 :: u118 :: []), []⟩ w') :
    (Code.loop (loopBody Try.f107 1)).wp Try.prog Q ⟨List.toArray ((.pointer (some ⟨gM, 0, none⟩)) :: (.slice (some ⟨gc, 0, none⟩) ac.length cc) :: u2 :: u3 :: u4 :: u5 :: u6 :: u7 :: (.int .i64 i) :: vb :: u10 :: u11 :: u12 :: u13 :: u14 :: u15 :: u16 :: u17 :: u18 :: u19 :: u20 :: u21 :: u22 :: u23 :: u24 :: u25 :: u26 :: 
      u27 :: u28 :: u29 :: u30 :: u31 :: u32 :: u33 :: u34 :: u35 :: u36 :: u37 :: (.int .i64 ac.length) :: (.int .i64 0) :: u40 :: u41 :: u42 :: u43 :: u44 :: u45 :: u46 :: u47 :: u48 :: u49 :: u50 :: u51 :: u52 :: u53 :: u54 :: u55 :: u56 :: u57 :: u58 :: u59 :: 
      u60 :: u61 :: u62 :: u63 :: u64 :: u65 :: u66 :: u67 :: u68 :: u69 :: u70 :: u71 :: u72 :: u73 :: u74 :: u75 :: u76 :: u77 :: u78 :: u79 :: u80 :: u81 :: u82 :: u83 :: u84 :: u85 :: u86 :: u87 :: u88 :: u89 :: u90 :: u91 :: u92 :: u93 :: u94 :: u95 :: u96 :: 
      u97 :: u98 :: u99 :: u100 :: u101 :: u102 :: u103 :: u104 :: u105 :: u106 :: u107 :: u108 :: u109 :: u110 :: u111 :: u112 :: u113 :: u114 :: u115 :: u116 :: u117 :: u118 :: []), []⟩ w := by
  conv => arg 2; arg 1; whnf
  go_loopw [9, 39] (fun vv jj wr => ∃ (j : Nat), jj = .int .i64 (j : Int) ∧ j ≤ ac.length ∧ Kept w wr (fun k => vb.ownBlock = some k) ∧ Moved w vb vv ∧ wr.ownsRow B 5 1 vv (bs ++ (List.range j).flatMap (sgJ L cl t i)).length ((bs ++ (List.range j).flatMap (sgJ L cl t i)).map encY)) (fun _ jj _ => ac.length - (intOf jj).toNat)
  case atStart => exact ⟨0, rfl, Nat.zero_le _, Kept.refl _ _, Moved.refl _ _, by simpa using hb⟩
  case round =>
    obtain ⟨j, rfl, hj, hK, hmv, hbw⟩ := hrel
    obtain ⟨A, c, rfl⟩ := slice_of_own hbw
    have hok2 := hide hok
    clear hok
    by_cases hlt : j < ac.length
    · have hM' := hM.row hb (by decide) hK
      have hcm := hM'.blk.cell
      have hcl' := own_ty hK hcl (not_blk hb (by decide))
      have hlb : (bs ++ (List.range j).flatMap (sgJ L cl t i)).length ≤ 700000 := by
        rw [List.length_append, flatMap_len _ (L * 4) (fun x => sgJ_length L cl t i x), List.length_range]
        have : j * (L * 4) ≤ 20000 * 32 := Nat.mul_le_mul (by omega) (by omega)
        omega
      have hKs := hK.size
      generalize hbs' : (bs ++ (List.range j).flatMap (sgJ L cl t i)) = bs' at *
      have hbse := hide hbs'
      clear hbs'
      go_wp2_with fail
      refine ref_inner hM' hok2.out hcl' hL hn hi hlt hbw hlb (by omega) ?_ ?_
      · repeat (first | exact hN | refine Reg.NoQ.then ?_ | refine Reg.NoQ.inBlock ?_)
      · iterate 53 (intro _)
        intro vb3 hk3 hmv3 hb3
        go_wp2_with fail
        exact ⟨⟨j + 1, by simp, by omega, hK.moved hmv hk3, hmv.trans hKs hmv3, by rw [rangeSnoc, ← List.append_assoc, hbse.out]; exact hb3⟩, by simp [intOf]; omega⟩
    · have e : j = ac.length := by omega
      have he := hide e
      clear e
      go_wp2_with fail
      refine hQ _ _ _ _ _ _ _ _ _ _ _ _ _ _ _ _ _ _ _ _ _ _ _ _ _ _ _ _ _ _ _ _ _ _ _ _ _ _ _ _ _ _ _ _ _ _ _ _ _ _ _ _ _ _ _ _ _ _ _ _ _ wr _ hK hmv ?_
      have e2 := he.out
      subst e2
      exact hbw
end Go.Proofs.Ytnimlcbgeiajiaa

namespace Go.Proofs.Ytnimlcbgeiajiaa
open Go.RowKit

/-- The place of what is in a list. -/
def numL {S : Type} [DecidableEq S] (l : List S) (s : S) : Nat := l.idxOf s
theorem get_numL {S : Type} [DecidableEq S] (l : List S) (s : S) : (meetL l s)[numL (meetL l s) s]? = some s := get_meetL l s
theorem numL_old {S : Type} [DecidableEq S] {l : List S} {s : S} (h : s ∈ l) : numL (meetL l s) s = l.idxOf s := by unfold numL meetL; rw [if_pos h]
theorem numL_new {S : Type} [DecidableEq S] {l : List S} {s : S} (h : s ∉ l) : numL (meetL l s) s = l.length := by
  unfold numL meetL
  rw [if_neg h, List.idxOf_append, if_neg h]
  simp

structure SgS (sg : Nat → List UInt8) (k : Nat) (ms : List (List UInt8)) (os : List Nat) : Prop where
  len : os.length = k
  nd : ms.Nodup
  src : ∀ s ∈ ms, ∃ i, i < k ∧ s = sg i
  at_ : ∀ (i e : Nat), os[i]? = some e → ms[e]? = some (sg i)
  le : ms.length ≤ k
theorem SgS.start (sg : Nat → List UInt8) : SgS sg 0 [] [] := ⟨rfl, List.nodup_nil, by simp, fun i e h => by simp at h, Nat.le_refl _⟩
theorem SgS.step {sg : Nat → List UInt8} {k : Nat} {ms : List (List UInt8)} {os : List Nat} (h : SgS sg k ms os) : SgS sg (k + 1) (meetL ms (sg k)) (os ++ [numL (meetL ms (sg k)) (sg k)]) := by
  refine ⟨by simp [h.len], nodup_meetL h.nd _, fun s hs => ?_, fun i e he => ?_, ?_⟩
  · rcases mem_meetL.1 hs with hs | rfl
    · obtain ⟨i, hi, e⟩ := h.src s hs
      exact ⟨i, by omega, e⟩
    · exact ⟨k, by omega, rfl⟩
  · by_cases hi : i < os.length
    · rw [List.getElem?_append_left hi] at he
      exact prefix_get (prefix_meetL _ _) (h.at_ i e he)
    · have h1 := lt_of_get he
      simp at h1
      obtain rfl : i = os.length := by omega
      simp at he
      subst he
      rw [h.len]
      exact get_numL ms (sg k)
  · have h1 := length_meetL ms (sg k)
    have h2 := h.le
    exact Nat.le_trans h1 (by omega)
theorem SgS.iff {sg : Nat → List UInt8} {n : Nat} {ms : List (List UInt8)} {os : List Nat} (h : SgS sg n ms os) {i j : Nat} (hi : i < n) (hj : j < n) : os.getD i 0 = os.getD j 0 ↔ sg i = sg j := by
  obtain ⟨a, ha⟩ := get_lt (l := os) (i := i) (by rw [h.len]; exact hi)
  obtain ⟨b, hb⟩ := get_lt (l := os) (i := j) (by rw [h.len]; exact hj)
  rw [getD_some ha, getD_some hb]
  have h1 := h.at_ i a ha
  have h2 := h.at_ j b hb
  constructor
  · rintro rfl
    exact Option.some.inj (h1.symm.trans h2)
  · intro e
    rw [e] at h1
    exact (List.getElem?_inj (lt_of_get h1) h.nd).1 (h1.trans h2.symm)
theorem SgS.mem {sg : Nat → List UInt8} {n : Nat} {ms : List (List UInt8)} {os : List Nat} (h : SgS sg n ms os) (v : Nat) : v ∈ os ↔ v < ms.length := by
  constructor
  · intro hv
    obtain ⟨i, hi⟩ := List.mem_iff_getElem?.1 hv
    exact lt_of_get (h.at_ i v hi)
  · intro hv
    obtain ⟨s, hs⟩ := get_lt hv
    obtain ⟨i, hi, rfl⟩ := h.src s (List.mem_of_getElem? hs)
    obtain ⟨a, ha⟩ := get_lt (l := os) (i := i) (by rw [h.len]; exact hi)
    have h2 := h.at_ i a ha
    have : a = v := (List.getElem?_inj (lt_of_get h2) h.nd).1 (h2.trans hs.symm)
    subst this
    exact List.mem_of_getElem? ha

def encS (l : List UInt8) : Value := .string ⟨l.toArray⟩
theorem keyS : KeyOK Try.prog 9 encS := keyOK_string Try.underlying9 (fun l : List UInt8 => (⟨l.toArray⟩ : ByteArray)) (fun a b h => by
  have := congrArg (fun b : ByteArray => b.data.toList) h
  simpa using this)
theorem run_idx_len {P : Program} {T K E ty : TypeId} (hT : P.underlying T = some (.map K E)) {w : World} {g : Nat} {ks : List Value} (h : IdxMap w g ks) :
    (Builtin.len_ #[T] ty #[.map (some g)]).run P w = .ok (.int .i64 (ks.length : Int)) w := by
  obtain ⟨es, clock, h1, h2, h3⟩ := h
  have hg : (getObj g).run P w = .ok (.map es clock) w := by simp [getObj, Sem.run, h1]
  have hl : es.size = ks.length := by rw [← h2]; simp
  simp [Builtin.len_, run_underlying hT, hg, goInt, hl]
/-- The string of a row of bytes. -/
theorem run_sign {w : World} {base n : Nat} {v : Value} {l : List UInt8} (h : w.ownsRow base 5 1 v n (l.map encY)) (hn : l.length = n) (h0 : 0 < n) : (convert 161 9 v).run Try.prog w = .ok (encS l) w := by
  obtain ⟨x, hx⟩ := get_lt (l := l) (i := 0) (by omega)
  obtain ⟨g, cap, rfl, -⟩ := own_get h (map_get (f := encY) hx)
  subst hn
  refine run_convert_bytes_back w 161 9 5 ⟨g, 0, none⟩ cap l Try.underlying161 Try.underlying5 Try.underlying9 fun j hj => ?_
  have hadd : (⟨g, 0, none⟩ : Addr).add j = ⟨g, j, none⟩ := by unfold Addr.add; split <;> simp_all
  rw [hadd]
  exact own_cell h (map_get (f := encY) (List.getElem?_eq_getElem hj))
end Go.Proofs.Ytnimlcbgeiajiaa

namespace Go.Proofs.Ytnimlcbgeiajiaa

theorem sub_len : ∀ (l m : List Nat), l.Nodup → (∀ a ∈ l, a ∈ m) → l.length ≤ m.length
  | [], _, _, _ => Nat.zero_le _
  | a :: l, m, hn, hs => by
    obtain ⟨m1, m2, rfl⟩ := List.append_of_mem (hs a List.mem_cons_self)
    have hn' := List.nodup_cons.1 hn
    have h1 := sub_len l (m1 ++ m2) hn'.2 (fun b hb => by
      have h2 := hs b (List.mem_cons_of_mem _ hb)
      have hne : b ≠ a := fun e => hn'.1 (e ▸ hb)
      simp only [List.mem_append, List.mem_cons] at h2 ⊢
      rcases h2 with h2 | h2 | h2
      · exact .inl h2
      · exact (hne h2).elim
      · exact .inr h2)
    simp only [List.length_append, List.length_cons] at h1 ⊢
    omega
theorem nodup_cover : ∀ (l m : List Nat), l.Nodup → (∀ a ∈ l, a ∈ m) → m.length ≤ l.length → m.Nodup
  | [], m, _, _, hl => by
    have : m = [] := List.length_eq_zero_iff.1 (by simpa using hl)
    subst this
    exact List.nodup_nil
  | a :: l, m, hn, hs, hl => by
    obtain ⟨m1, m2, rfl⟩ := List.append_of_mem (hs a List.mem_cons_self)
    have hn' := List.nodup_cons.1 hn
    have hsub : ∀ b ∈ l, b ∈ m1 ++ m2 := fun b hb => by
      have h2 := hs b (List.mem_cons_of_mem _ hb)
      have hne : b ≠ a := fun e => hn'.1 (e ▸ hb)
      simp only [List.mem_append, List.mem_cons] at h2 ⊢
      rcases h2 with h2 | h2 | h2
      · exact .inl h2
      · exact (hne h2).elim
      · exact .inr h2
    simp only [List.length_append, List.length_cons] at hl
    have h1 := nodup_cover l (m1 ++ m2) hn'.2 hsub (by simp; omega)
    refine List.perm_middle.nodup_iff.2 (List.nodup_cons.2 ⟨fun ha => ?_, h1⟩)
    have h2 := sub_len (a :: l) (m1 ++ m2) hn (fun b hb => by
      rcases List.mem_cons.1 hb with rfl | hb
      · exact ha
      · exact hsub b hb)
    simp at h2
    omega

section
variable {L n : Nat} {br : Nat → Nat → Nat → Nat} {acc : Nat → Bool}
/-- The classes after r rounds. -/
structure ClsAt (L n : Nat) (br : Nat → Nat → Nat → Nat) (acc : Nat → Bool) (r : Nat) (cl : List Nat) (cnt : Nat) : Prop where
  len : cl.length = n
  iff : ∀ i j, i < n → j < n → (cl.getD i 0 = cl.getD j 0 ↔ EqS L n br acc r i j)
  mem : ∀ v, v ∈ cl ↔ v < cnt
variable {r cnt cnt' : Nat} {cl os : List Nat} {leaf : Nat → Nat}
theorem ClsAt.le (h : ClsAt L n br acc r cl cnt) : cnt ≤ n := by
  have := sub_len (List.range cnt) cl List.nodup_range (fun a ha => (h.mem a).2 (List.mem_range.1 ha))
  simpa [h.len] using this
theorem ClsAt.pos (h : ClsAt L n br acc r cl cnt) (hn : 0 < n) : 0 < cnt := by
  obtain ⟨x, hx⟩ := get_lt (l := cl) (i := 0) (by rw [h.len]; exact hn)
  have := (h.mem x).1 (List.mem_of_getElem? hx)
  omega
theorem ClsAt.val (h : ClsAt L n br acc r cl cnt) {i : Nat} (hi : i < n) : cl.getD i 0 < cnt := by
  obtain ⟨x, hx⟩ := get_lt (l := cl) (i := i) (by rw [h.len]; exact hi)
  rw [getD_some hx]
  exact (h.mem x).1 (List.mem_of_getElem? hx)
theorem ClsAt.small (h : ClsAt L n br acc r cl cnt) (hn : n ≤ 20000) (k : Nat) : cl.getD k 0 < 65536 := by
  by_cases hk : k < n
  · have := h.val hk
    have := h.le
    omega
  · rw [List.getD_eq_getElem?_getD, List.getElem?_eq_none (by rw [h.len]; omega)]
    simp
/-- One round more. -/
theorem ClsAt.step {t : List (List (List Nat))} {lf : List Nat} (hM : IsM L n (mleaf lf) (mbr t)) (h : ClsAt L n (mbr t) acc r cl cnt) (hn : n ≤ 20000) {ms : List (List UInt8)} (hs : SgS (sgn L n cl t) n ms os) : ClsAt L n (mbr t) acc (r + 1) os ms.length := by
  refine ⟨hs.len, fun i j hi hj => ?_, hs.mem⟩
  rw [hs.iff hi hj, sgn_iff (h.small hn)]
  refine and_congr (h.iff i j hi hj) (forall_congr' fun x => forall_congr' fun hx => forall_congr' fun k => forall_congr' fun hk => and_congr ?_ ?_)
  · exact h.iff _ _ (hM.br_lt x i k hx hi hk) (hM.br_lt x j k hx hj hk)
  · exact h.iff _ _ (hM.br_lt x k i hx hk hi) (hM.br_lt x k j hx hk hj)
theorem ClsAt.grow (h : ClsAt L n br acc r cl cnt) (h' : ClsAt L n br acc (r + 1) os cnt') : cnt ≤ cnt' := by
  have := sub_len (List.range cnt) ((List.range cnt').map fun v => cl.getD (os.idxOf v) 0) List.nodup_range (fun u hu => by
    obtain ⟨i, hi⟩ := List.mem_iff_getElem?.1 ((h.mem u).2 (List.mem_range.1 hu))
    have hin : i < n := by have := lt_of_get hi; rwa [h.len] at this
    have hv := h'.val hin
    refine List.mem_map.2 ⟨os.getD i 0, List.mem_range.2 hv, ?_⟩
    have hm := (h'.mem _).2 hv
    have hlt := List.idxOf_lt_length_of_mem hm
    rw [h'.len] at hlt
    have he : os.getD (os.idxOf (os.getD i 0)) 0 = os.getD i 0 := by
      rw [getD_some (x := os.getD i 0)]
      rw [List.getElem?_eq_getElem (List.idxOf_lt_length_of_mem hm), List.getElem_idxOf]
    rw [(h.iff _ _ hlt hin).2 ((h'.iff _ _ hlt hin).1 he).1, getD_some hi])
  simpa using this
/-- No new class: the classes have come to rest. -/
theorem ClsAt.rest (h : ClsAt L n br acc r cl cnt) (h' : ClsAt L n br acc (r + 1) os cnt) {i j : Nat} (hi : i < n) (hj : j < n) (he : EqS L n br acc r i j) : EqS L n br acc (r + 1) i j := by
  have hval : ∀ i, i < n → cl.getD (os.idxOf (os.getD i 0)) 0 = cl.getD i 0 := fun i hin => by
    have hv := h'.val hin
    have hm := (h'.mem _).2 hv
    have hlt := List.idxOf_lt_length_of_mem hm
    rw [h'.len] at hlt
    have he : os.getD (os.idxOf (os.getD i 0)) 0 = os.getD i 0 := by
      rw [getD_some (x := os.getD i 0)]
      rw [List.getElem?_eq_getElem (List.idxOf_lt_length_of_mem hm), List.getElem_idxOf]
    exact (h.iff _ _ hlt hin).2 ((h'.iff _ _ hlt hin).1 he).1
  have hnd := nodup_cover (List.range cnt) ((List.range cnt).map fun v => cl.getD (os.idxOf v) 0) List.nodup_range (fun u hu => by
    obtain ⟨i, hi⟩ := List.mem_iff_getElem?.1 ((h.mem u).2 (List.mem_range.1 hu))
    have hin : i < n := by have := lt_of_get hi; rwa [h.len] at this
    exact List.mem_map.2 ⟨os.getD i 0, List.mem_range.2 (h'.val hin), by rw [hval i hin, getD_some hi]⟩) (by simp)
  refine (h'.iff i j hi hj).1 ?_
  have hg : ∀ i, i < n → ((List.range cnt).map fun v => cl.getD (os.idxOf v) 0)[os.getD i 0]? = some (cl.getD i 0) := fun i hin => by
    rw [List.getElem?_map, List.getElem?_range (h'.val hin)]
    simp only [Option.map_some, hval i hin]
  have h1 := hg i hi
  have h2 := hg j hj
  rw [(h.iff i j hi hj).2 he] at h1
  exact (List.getElem?_inj (lt_of_get h1) hnd).1 (h1.trans h2.symm)
theorem EqS.le {r : Nat} : ∀ (d : Nat) {i j : Nat}, EqS L n br acc (r + d) i j → EqS L n br acc r i j
  | 0, _, _, h => h
  | d + 1, _, _, h => EqS.le d h.1
theorem EqS.stable (hM : IsM L n leaf br) {r : Nat} (hs : ∀ i j, i < n → j < n → EqS L n br acc r i j → EqS L n br acc (r + 1) i j) : ∀ (d : Nat) {i j : Nat}, i < n → j < n → EqS L n br acc r i j → EqS L n br acc (r + d) i j
  | 0, _, _, _, _, h => h
  | d + 1, i, j, hi, hj, h => by
    refine ⟨EqS.stable hM hs d hi hj h, fun x hx k hk => ?_⟩
    have h1 := (hs i j hi hj h).2 x hx k hk
    exact ⟨EqS.stable hM hs d (hM.br_lt x i k hx hi hk) (hM.br_lt x j k hx hj hk) h1.1, EqS.stable hM hs d (hM.br_lt x k i hx hk hi) (hM.br_lt x k j hx hk hj) h1.2⟩
/-- What contexts of a depth tell apart; all contexts, if the depth is below 0. -/
def EqD (L n : Nat) (br : Nat → Nat → Nat → Nat) (acc : Nat → Bool) (d : Int) (i j : Nat) : Prop := if d < 0 then ∀ r, EqS L n br acc r i j else EqS L n br acc d.toNat i j
structure ClsD (L n : Nat) (br : Nat → Nat → Nat → Nat) (acc : Nat → Bool) (d : Int) (cl : List Nat) : Prop where
  len : cl.length = n
  iff : ∀ i j, i < n → j < n → (cl.getD i 0 = cl.getD j 0 ↔ EqD L n br acc d i j)
  lt : ∀ i, i < n → cl.getD i 0 < n
/-- The loop's end at the wanted depth. -/
theorem ClsAt.atDepth (h : ClsAt L n br acc r cl cnt) {d : Int} (hd : (r : Int) = d) : ClsD L n br acc d cl := by
  refine ⟨h.len, fun i j hi hj => ?_, fun i hi => Nat.lt_of_lt_of_le (h.val hi) h.le⟩
  unfold EqD
  rw [if_neg (by omega), ← hd]
  exact h.iff i j hi hj
/-- The loop's end at rest. -/
theorem ClsAt.atRest (hM : IsM L n leaf br) (h : ClsAt L n br acc r cl cnt) (h' : ClsAt L n br acc (r + 1) os cnt) {d : Int} (hd : d < 0 ∨ (r : Int) ≤ d) : ClsD L n br acc d cl := by
  have hst := fun d {i j} => EqS.stable hM (fun i j hi hj he => h.rest h' hi hj he) d (i := i) (j := j)
  refine ⟨h.len, fun i j hi hj => ?_, fun i hi => Nat.lt_of_lt_of_le (h.val hi) h.le⟩
  rw [h.iff i j hi hj]
  unfold EqD
  by_cases h0 : d < 0
  · rw [if_pos h0]
    constructor
    · intro he k
      have h1 := hst k hi hj he
      exact EqS.le (r := k) r (by rw [Nat.add_comm]; exact h1)
    · exact fun he => he r
  · rw [if_neg h0]
    have : d.toNat = r + (d.toNat - r) := by omega
    rw [this]
    exact ⟨fun he => hst _ hi hj he, fun he => EqS.le _ he⟩

/-- The first classes. -/
def cls0 (ac : List Bool) : List Nat := ac.map fun b => if (b != macc ac 0) = true then 1 else 0
theorem cls0_get {ac : List Bool} {i : Nat} {b : Bool} (h : ac[i]? = some b) : (cls0 ac)[i]? = some (if (b != macc ac 0) = true then 1 else 0) := by
  unfold cls0
  rw [List.getElem?_map, h]
  rfl
def cntTo (l : List Nat) : Nat := l.foldl (fun c x => max c (x + 1)) 0
theorem cntTo_spec : ∀ (l : List Nat) (c v : Nat), v < l.foldl (fun c x => max c (x + 1)) c ↔ v < c ∨ ∃ x ∈ l, v ≤ x
  | [], c, v => by simp
  | y :: l, c, v => by
    rw [List.foldl_cons, cntTo_spec l]
    simp only [List.mem_cons, exists_eq_or_imp]
    generalize (∃ x, x ∈ l ∧ v ≤ x) = R
    rw [← or_assoc]
    have : v < max c (y + 1) ↔ v < c ∨ v ≤ y := by omega
    rw [this]
theorem ClsAt.zero {ac : List Bool} (hn : 0 < ac.length) : ClsAt L ac.length br (macc ac) 0 (cls0 ac) (cntTo (cls0 ac)) := by
  have h01 : ∀ x ∈ cls0 ac, x ≤ 1 := fun x hx => by
    obtain ⟨b, _, rfl⟩ := List.mem_map.1 hx
    split <;> omega
  obtain ⟨b0, hb0⟩ := get_lt hn
  have hz : (0 : Nat) ∈ cls0 ac := by
    have := cls0_get hb0
    have he : macc ac 0 = b0 := getD_some hb0
    rw [he] at this
    simp at this
    exact List.mem_of_getElem? this
  refine ⟨by simp [cls0], fun i j hi hj => ?_, fun v => ?_⟩
  · obtain ⟨a, ha⟩ := get_lt hi
    obtain ⟨b, hb⟩ := get_lt hj
    rw [getD_some (cls0_get ha), getD_some (cls0_get hb)]
    show _ ↔ macc ac i = macc ac j
    have e1 : macc ac i = a := getD_some ha
    have e2 : macc ac j = b := getD_some hb
    rw [e1, e2]
    cases a <;> cases b <;> cases macc ac 0 <;> simp
  · unfold cntTo
    rw [cntTo_spec]
    constructor
    · exact fun h => .inr ⟨v, h, Nat.le_refl _⟩
    · rintro (h | ⟨x, hx, hv⟩)
      · omega
      · have := h01 x hx
        have : v = 0 ∨ v = x := by omega
        rcases this with rfl | rfl
        · exact hz
        · exact hx
end
end Go.Proofs.Ytnimlcbgeiajiaa

namespace Go.Proofs.Ytnimlcbgeiajiaa
open Go.RowKit

set_option maxHeartbeats 4000000 in
set_option maxRecDepth 100000 in
theorem ref_outer {w0 w : World} {base base2 gM L gc cc gm go : Nat} {vacc vleaf vbr : Value} {ac : List Bool} {lf cl : List Nat} {t : List (List (List Nat))} (hM : MachA w0 base gM L vacc vleaf vbr ac lf t) (hok : MOK L ac lf t)
    (hcl : w0.ownsRow base2 3 1 (.slice (some ⟨gc, 0, none⟩) ac.length cc) ac.length (cl.map encN)) (hL : L ≤ 8) (hn : ac.length ≤ 20000)
    (hBw : Below w0.heap.size w0 w) (hmap : IdxMap w gm []) (hout : Blk w go 3 (fillC ac.length [])) (hgm : w0.heap.size ≤ gm) (hgo : w0.heap.size ≤ go)
    {u2 u3 u4 u5 u8 u9 u10 u11 u12 u13 u14 u15 u16 u17 u18 u19 u20 u23 u24 u25 u26 u27 u28 u29 u30 u31 u32 u33 u34 u35 u36 u37 u38 u39 u40 u41 u42 u43 u44 u45 u46 u47 u48 u49 u50 u51 u52 u53 u54 u55 u56 u57 u58 u59 u60 u61 u62 u63 u64 u65 u66 u67 u68 u69 u70 u71 u72 u73 u74 u75 u76 u77 u78 u79 u80 u81 u82 u83 u84 u85 u86 u87 u88 u89 u90 u91 u92 u93 u94 u95 u96 u97 u98 u99 u100 u101 u102 u103 u104 u105 u106 u107 u108 u109 u110 u111 u112 u113 u114 u115 u116 u117 u118 : Value}
    {Q : Exit → Act → World → Prop} (hN : Reg.NoQ Q)
    (hQ : ∀ (x8 x9 x10 x11 x12 x13 x14 x15 x22 x23 x24 x25 x26 x27 x28 x29 x30 x31 x32 x33 x34 x35 x36 x37 x38 x39 x40 x41 x42 x43 x44 x45 x46 x47 x48 x49 x50 x51 x52 x53 x54 x55 x56 x57 x58 x59 x60 x61 x62 x63 x64 x65 x66 x67 x68 x69 x70 x71 x72 x73 x74 x75 x76 x77 x78 x79 x80 x81 x82 x83 x84 x85 x86 x87 x88 x89 x90 x91 x92 x93 x94 x95 x96 x97 x98 x99 x100 x101 x102 x103 x104 x105 x106 x107 x108 x109 x110 x111 x112 x113 x114 x115 : Value) (w' : World) (ms : List (List UInt8)) (os : List Nat), Below w0.heap.size w0 w' → IdxMap w' gm (ms.map encS) → Blk w' go 3 (fillC ac.length os) → SgS (sgn L ac.length cl t) ac.length ms os →
      Q (.exit 0) ⟨List.toArray ((.pointer (some ⟨gM, 0, none⟩)) :: (.slice (some ⟨gc, 0, none⟩) ac.length cc) :: u2 :: u3 :: u4 :: u5 :: (.map (some gm)) :: (.slice (some ⟨go, 0, none⟩) ac.length ac.length) :: x8 :: x9 :: x10 :: x11 :: x12 :: x13 :: x14 :: x15 :: u16 :: u17 :: u18 :: u19 :: 
      u20 :: (.int .i64 ac.length) :: x22 :: x23 :: x24 :: x25 :: x26 :: x27 :: x28 :: x29 :: x30 :: x31 :: x32 :: x33 :: x34 :: x35 :: x36 :: x37 :: x38 :: x39 :: x40 :: x41 :: x42 :: x43 :: x44 :: x45 :: x46 :: x47 :: x48 :: x49 :: x50 :: x51 :: x52 :: x53 :: x54 :: 
      x55 :: x56 :: x57 :: x58 :: x59 :: x60 :: x61 :: x62 :: x63 :: x64 :: x65 :: x66 :: x67 :: x68 :: x69 :: x70 :: x71 :: x72 :: x73 :: x74 :: x75 :: x76 :: x77 :: x78 :: x79 :: x80 :: x81 :: x82 :: x83 :: x84 :: x85 :: x86 :: x87 :: x88 :: x89 :: x90 :: x91 :: 
      x92 :: x93 :: x94 :: x95 :: x96 :: x97 :: x98 :: x99 :: x100 :: x101 :: x102 :: x103 :: x104 :: x105 :: x106 :: x107 :: x108 :: x109 :: x110 :: x111 :: x112 :: x113 :: x114 :: x115 :: u116 :: u117 :: u118 :: []), []⟩ w') :
    (Code.loop (loopBody Try.f107 0)).wp Try.prog Q ⟨List.toArray ((.pointer (some ⟨gM, 0, none⟩)) :: (.slice (some ⟨gc, 0, none⟩) ac.length cc) :: u2 :: u3 :: u4 :: u5 :: (.map (some gm)) :: (.slice (some ⟨go, 0, none⟩) ac.length ac.length) :: u8 :: u9 :: u10 :: u11 :: u12 :: u13 :: u14 :: u15 :: u16 :: u17 :: u18 :: u19 :: 
      u20 :: (.int .i64 ac.length) :: (.int .i64 0) :: u23 :: u24 :: u25 :: u26 :: u27 :: u28 :: u29 :: u30 :: u31 :: u32 :: u33 :: u34 :: u35 :: u36 :: u37 :: u38 :: u39 :: u40 :: u41 :: u42 :: u43 :: u44 :: u45 :: u46 :: u47 :: u48 :: u49 :: u50 :: u51 :: u52 :: 
      u53 :: u54 :: u55 :: u56 :: u57 :: u58 :: u59 :: u60 :: u61 :: u62 :: u63 :: u64 :: u65 :: u66 :: u67 :: u68 :: u69 :: u70 :: u71 :: u72 :: u73 :: u74 :: u75 :: u76 :: u77 :: u78 :: u79 :: u80 :: u81 :: u82 :: u83 :: u84 :: u85 :: u86 :: u87 :: u88 :: u89 :: 
      u90 :: u91 :: u92 :: u93 :: u94 :: u95 :: u96 :: u97 :: u98 :: u99 :: u100 :: u101 :: u102 :: u103 :: u104 :: u105 :: u106 :: u107 :: u108 :: u109 :: u110 :: u111 :: u112 :: u113 :: u114 :: u115 :: u116 :: u117 :: u118 :: []), []⟩ w := by
  conv => arg 2; arg 1; whnf
  go_loopw [22] (fun ii wr => ∃ (i : Nat) (ms : List (List UInt8)) (os : List Nat), ii = .int .i64 (i : Int) ∧ i ≤ ac.length ∧ Below w0.heap.size w0 wr ∧ IdxMap wr gm (ms.map encS) ∧ Blk wr go 3 (fillC ac.length os) ∧ Hid (SgS (sgn L ac.length cl t) i ms os)) (fun ii _ => ac.length - (intOf ii).toNat)
  case atStart => exact ⟨0, [], [], rfl, Nat.zero_le _, hBw, hmap, hout, SgS.start _⟩
  case round =>
    obtain ⟨i, ms, os, rfl, hi, hB, hmp, hou, hS⟩ := hrel
    have hok2 := hide hok
    clear hok
    by_cases hlt : i < ac.length
    · have hK0 := Kept.of_below hB (fun _ => False)
      have hM' := hM.keep hK0 (fun _ _ _ h => h.elim)
      have hcl' := own_ty hK0 hcl (fun _ _ h => h.elim)
      have hll := hcl.1
      have hlen : cl.length = ac.length := by simpa using hll
      obtain ⟨p, hpg⟩ := get_lt (l := cl) (i := i) (by omega)
      have hcp := own_cell hcl' (map_get (f := encN) hpg)
      simp only [encN] at hcp
      have hHp := hide hpg
      clear hll hlen hpg
      go_wp2_with fail
      go_still_tail 11, (by kernel_rfl)
      change wpList _ _ _ _ _ wr.drew
      have hKa : Kept wr ((wr.alloc (.cells #[.int .u8 (b8 p : Int), .int .u8 (b8 (n8 p) : Int)] 5)).drew) (fun _ => False) := ((Kept.refl wr _).alloc _).drew
      have hba : ((wr.alloc (.cells #[.int .u8 (b8 p : Int), .int .u8 (b8 (n8 p) : Int)] 5)).drew).ownsRow w0.heap.size 5 1 (.slice (some ⟨wr.heap.size, 0, none⟩) 2 2) (bts p).length ((bts p).map encY) :=
        own_of_blk (e := 5) (Blk.new wr 5 #[.int .u8 (b8 p : Int), .int .u8 (b8 (n8 p) : Int)]) hB.size rfl (by omega)
      have hMa := hM'.keep hKa (fun _ _ _ h => h.elim)
      have hcla := own_ty hKa hcl' (fun _ _ h => h.elim)
      have hsz := hB.size
      go_wp2_with fail
      refine ref_middle hMa hok2.out hcla hL hn hlt hba (by simp [bts]) (by simp; omega) ?_ ?_
      · repeat (first | exact hN | refine Reg.NoQ.then ?_ | refine Reg.NoQ.inBlock ?_)
      · iterate 62 (intro _)
        rename_i wc
        intro vb3 hk3 hmv3 hb3
        have hsl : (bts p ++ (List.range ac.length).flatMap (sgJ L cl t i)).length = 2 + ac.length * (L * 4) := by
          rw [List.length_append, flatMap_len _ (L * 4) (fun x => sgJ_length L cl t i x), List.length_range]; rfl
        have hsg : bts p ++ (List.range ac.length).flatMap (sgJ L cl t i) = sgn L ac.length cl t i := by
          unfold sgn
          rw [getD_some hHp.out]
        have hrs := run_sign hb3 rfl (by omega)
        rw [hsg] at hrs hb3
        have hKc : Kept wr wc (fun _ => False) := hKa.trans hk3 (fun b hb hx => by
          simp [Value.ownBlock] at hx
          omega)
        have hmc := hmp.kept hKc id
        have hoc := hou.kept hKc id
        have hlk := run_idx_lookup keyS Try.underlying159 zero3 hmc (sgn L ac.length cl t i)
        have hosl := hide hS.out.len
        have hco : wc.cell? ⟨go, i, none⟩ = some (.int .i64 0) := by
          rw [hoc.cell, ← hosl.out]
          exact fillC_get (by rw [hosl.out]; exact hlt)
        have hfo := hoc.frozen i
        have hgoc := hoc.lt
        have hstep := hide hS.out.step
        have hBc : Below w0.heap.size w0 wc := hB.trans (hKc.below hsz fun _ _ h => h)
        clear hb3 hsl hMa hcla hba hKa hk3 hmv3 hM' hcl' hcp
        generalize hsg2 : sgn L ac.length cl t i = sg at *
        have hsg3 := hide hsg2
        clear hsg2 hsg
        by_cases hs : sg ∈ ms
        · simp only [hs, if_true, decide_true] at hlk
          have hnum := hide (numL_old hs)
          have hss := hide hs
          clear hs
          go_wp2_with fail
          have hou2 := hoc.set_ i (.int .i64 (numL (meetL ms sg) sg : Int))
          refine ⟨⟨i + 1, meetL ms sg, os ++ [numL (meetL ms sg) sg], by simp, by omega, hBc.setCell (by simp; omega) _, ?_, ?_, hstep⟩, by simp [intOf]; omega⟩
          · have : meetL ms sg = ms := by unfold meetL; rw [if_pos hss.out]
            rw [this]
            exact hmc.kept ((Kept.refl wc (fun k => k = go)).setCell (p := ⟨go, i, none⟩) (fun _ => rfl) _) (fun e => blk_map_ne hoc hmc e.symm)
          · rw [hnum.out] at hou2 ⊢
            rw [← fillC_set (by rw [hosl.out]; exact hlt), hosl.out]
            exact hou2
        · simp only [hs, if_false, decide_false] at hlk
          obtain ⟨w4, hup, hm4, hg4, hs4⟩ := run_idx_store keyS Try.underlying159 hmc sg hs
          have hln : ∀ ty, (Builtin.len_ #[159] ty #[.map (some gm)]).run Try.prog wc = .ok (.int .i64 (ms.length : Int)) wc := fun ty => by
            have := run_idx_len (ty := ty) Try.underlying159 hmc
            simpa using this
          have hk4 := Kept.of_grown hg4
          have hgne : go ≠ gm := blk_map_ne hoc hmc
          have hoc4 := hoc.kept hk4 (fun e => hgne (Option.some.inj e).symm)
          have hco4 : w4.cell? ⟨go, i, none⟩ = some (.int .i64 0) := by
            rw [hoc4.cell, ← hosl.out]
            exact fillC_get (by rw [hosl.out]; exact hlt)
          have hfo4 := hoc4.frozen i
          have hgoc4 := hoc4.lt
          have hnum := hide (numL_new hs)
          have hss := hide hs
          have hBc4 : Below w0.heap.size w0 w4 := hBc.trans (hk4.below hBc.size fun b hb e => by
            have := Option.some.inj e
            omega)
          clear hs hs4 hg4
          go_wp2_with fail
          have hou2 := hoc4.set_ i (.int .i64 (ms.length : Int))
          refine ⟨⟨i + 1, meetL ms sg, os ++ [numL (meetL ms sg) sg], by simp, by omega, hBc4.setCell (by simp; omega) _, ?_, ?_, hstep⟩, by simp [intOf]; omega⟩
          · have : meetL ms sg = ms ++ [sg] := by unfold meetL; rw [if_neg hss.out]
            rw [this]
            exact hm4.kept ((Kept.refl w4 (fun k => k = go)).setCell (p := ⟨go, i, none⟩) (fun _ => rfl) _) (fun e => hgne e.symm)
          · rw [hnum.out, ← fillC_set (by rw [hosl.out]; exact hlt), hosl.out]
            exact hou2
    · have e : i = ac.length := by omega
      have he := hide e
      clear e
      go_wp2_with fail
      have e2 := he.out
      subst e2
      exact hQ _ _ _ _ _ _ _ _ _ _ _ _ _ _ _ _ _ _ _ _ _ _ _ _ _ _ _ _ _ _ _ _ _ _ _ _ _ _ _ _ _ _ _ _ _ _ _ _ _ _ _ _ _ _ _ _ _ _ _ _ _ _ _ _ _ _ _ _ _ _ _ _ _ _ _ _ _ _ _ _ _ _ _ _ _ _ _ _ _ _ _ _ _ _ _ _ _ _ _ _ _ _ wr ms os hB hmp hou hS.out
end Go.Proofs.Ytnimlcbgeiajiaa

namespace Go.Proofs.Ytnimlcbgeiajiaa
open Go.RowKit

theorem fillC_own {w : World} {base g L : Nat} {row : List Nat} (h : Blk w g 3 (fillC L row)) (hl : row.length = L) (hb : base ≤ g) (hL : L ≤ 1000000) : w.ownsRow base 3 1 (.slice (some ⟨g, 0, none⟩) L L) L (row.map encN) := by
  have h1 := own_of_blk (n := L) h hb (by simp [fillC]; omega) hL
  have h2 : (fillC L row).toList = row.map encN := by simp [fillC, hl]
  rwa [h2] at h1

set_option maxHeartbeats 4000000 in
set_option maxRecDepth 100000 in
theorem refine_any {w : World} {base base2 gM L gc cc : Nat} {vacc vleaf vbr : Value} {ac : List Bool} {lf cl : List Nat} {t : List (List (List Nat))} (hM : MachA w base gM L vacc vleaf vbr ac lf t) (hok : MOK L ac lf t)
    (hcl : w.ownsRow base2 3 1 (.slice (some ⟨gc, 0, none⟩) ac.length cc) ac.length (cl.map encN)) (hL : L ≤ 8) (hn : ac.length ≤ 20000) :
    Calls Try.prog 107 #[.pointer (some ⟨gM, 0, none⟩), .slice (some ⟨gc, 0, none⟩) ac.length cc] w (Ret fun v w' => Below w.heap.size w w' ∧ ∃ (go : Nat) (ms : List (List UInt8)) (os : List Nat),
      v = .tuple #[.slice (some ⟨go, 0, none⟩) ac.length ac.length, .int .i64 (ms.length : Int)] ∧ w'.ownsRow w.heap.size 3 1 (.slice (some ⟨go, 0, none⟩) ac.length ac.length) ac.length (os.map encN) ∧ SgS (sgn L ac.length cl t) ac.length ms os) := by
  obtain ⟨gm, w1, hmk, hmap, hb1, hgm⟩ := mkmap_facts 159 w
  obtain ⟨go, w2, hmk2, hrow, hb2, hgo⟩ := mk_row w1 ac.length (by omega)
  rw [← fillC_nil] at hrow
  have hsz := hb1.size
  have hB2 : Below w.heap.size w w2 := hb1.trans (hb2.mono hsz)
  have hmap2 := hmap.kept (Kept.of_below hb2 (fun _ => False)) id
  go_enter Try.func107, Try.ntmps107
  go_wp2_with fail
  refine ref_outer hM hok hcl hL hn hB2 hmap2 hrow hgm (by omega) ?_ ?_
  · repeat (first | exact Reg.NoQ.body (fun _ _ h => h) (fun _ h => h) | refine Reg.NoQ.then ?_ | refine Reg.NoQ.inBlock ?_)
  iterate 102 (intro _)
  intro w3 ms os hB3 hm3 hr3 hS
  have hSS := hide hS
  have hln : ∀ ty, (Builtin.len_ #[159] ty #[.map (some gm)]).run Try.prog w3 = .ok (.int .i64 (ms.length : Int)) w3 := fun ty => by
    have := run_idx_len (ty := ty) Try.underlying159 hm3
    simpa using this
  clear hS hmk hmk2
  go_wp2_with fail
  go_ret2
  exact ⟨hB3, go, ms, os, rfl, fillC_own hr3 hSS.out.len (by omega) (by omega), hSS.out⟩
end Go.Proofs.Ytnimlcbgeiajiaa

namespace Go.Proofs.Ytnimlcbgeiajiaa
open Go.RowKit

set_option maxHeartbeats 1000000 in
theorem states_any {w : World} {base gM L : Nat} {vacc vleaf vbr : Value} {ac : List Bool} {lf : List Nat} {t : List (List (List Nat))} (hM : MachA w base gM L vacc vleaf vbr ac lf t) (_ : ac.length ≤ 20000) :
    Calls Try.prog 75 #[.pointer (some ⟨gM, 0, none⟩)] w fun e w' => e = .returned (.int .i64 (ac.length : Int)) ∧ w = w' := by
  obtain ⟨A, c, rfl⟩ := slice_of_own hM.acc
  have hcm := hM.blk.cell
  go_enter Try.func75, Try.ntmps75
  go_wp2
  go_ret
  exact ⟨rfl, rfl⟩

theorem fillC_zero {L : Nat} {row : List Nat} (h : row.length < L) : fillC L (row ++ [0]) = fillC L row := by
  rw [← fillC_set h]
  apply Array.ext_getElem?
  intro i
  rw [Array.getElem?_setIfInBounds]
  split
  · rename_i e
    subst e
    split
    · exact (fillC_get h).symm
    · rename_i h2
      simp [fillC] at h2
      omega
  · rfl

set_option maxHeartbeats 4000000 in
set_option maxRecDepth 100000 in
theorem cls_first {w0 w : World} {base gM L go : Nat} {vacc vleaf vbr : Value} {ac : List Bool} {lf : List Nat} {t : List (List (List Nat))} (hM : MachA w0 base gM L vacc vleaf vbr ac lf t) (hn : ac.length ≤ 20000)
    (hBw : Below w0.heap.size w0 w) (hout : Blk w go 3 (fillC ac.length [])) (hgo : w0.heap.size ≤ go)
    {u1 u2 u3 u4 u6 u7 u8 u9 u10 u11 u12 u13 u14 u15 u16 u17 u18 u19 u23 u24 u25 u26 u27 u28 u29 u30 u31 u32 u33 u34 u35 u36 u37 u38 u39 u40 u41 u42 u43 u44 u45 u46 u47 u48 u49 u50 u51 u52 u53 u54 u55 u56 u57 u58 u59 u60 u61 u62 u63 u64 u65 u66 : Value}
    {Q : Exit → Act → World → Prop}
    (hQ : ∀ (x6 x7 x22 x23 x24 x25 x26 x27 x28 x29 x30 x31 x32 x33 x34 x35 x36 x37 x38 : Value) (w' : World), Below w0.heap.size w0 w' → Blk w' go 3 (fillC ac.length (cls0 ac)) →
      Q (.exit 0) ⟨List.toArray ((.pointer (some ⟨gM, 0, none⟩)) :: u1 :: u2 :: u3 :: u4 :: (.slice (some ⟨go, 0, none⟩) ac.length ac.length) :: x6 :: x7 :: u8 :: u9 :: u10 :: u11 :: u12 :: u13 :: u14 :: u15 :: u16 :: u17 :: u18 :: u19 :: vacc :: (.int .i64 ac.length) :: x22 :: x23 :: x24 :: 
      x25 :: x26 :: x27 :: x28 :: x29 :: x30 :: x31 :: x32 :: x33 :: x34 :: x35 :: x36 :: x37 :: x38 :: u39 :: u40 :: u41 :: u42 :: u43 :: u44 :: u45 :: u46 :: u47 :: u48 :: u49 :: u50 :: u51 :: u52 :: u53 :: u54 :: u55 :: u56 :: u57 :: u58 :: u59 :: u60 :: u61 :: 
      u62 :: u63 :: u64 :: u65 :: u66 :: []), []⟩ w') :
    (Code.loop (loopBody Try.f78 0)).wp Try.prog Q ⟨List.toArray ((.pointer (some ⟨gM, 0, none⟩)) :: u1 :: u2 :: u3 :: u4 :: (.slice (some ⟨go, 0, none⟩) ac.length ac.length) :: u6 :: u7 :: u8 :: u9 :: u10 :: u11 :: u12 :: u13 :: u14 :: u15 :: u16 :: u17 :: u18 :: u19 :: vacc :: (.int .i64 ac.length) :: (.int .i64 0) :: u23 :: 
      u24 :: u25 :: u26 :: u27 :: u28 :: u29 :: u30 :: u31 :: u32 :: u33 :: u34 :: u35 :: u36 :: u37 :: u38 :: u39 :: u40 :: u41 :: u42 :: u43 :: u44 :: u45 :: u46 :: u47 :: u48 :: u49 :: u50 :: u51 :: u52 :: u53 :: u54 :: u55 :: u56 :: u57 :: u58 :: u59 :: u60 :: 
      u61 :: u62 :: u63 :: u64 :: u65 :: u66 :: []), []⟩ w := by
  conv => arg 2; arg 1; whnf
  go_loopw [22] (fun ii wr => ∃ (k : Nat) (row : List Nat), ii = .int .i64 (k : Int) ∧ k ≤ ac.length ∧ Below w0.heap.size w0 wr ∧ Blk wr go 3 (fillC ac.length row) ∧ Hid (row = (cls0 ac).take k) ∧ row.length ≤ k ∧ k ≤ row.length) (fun ii _ => ac.length - (intOf ii).toNat)
  case atStart => exact ⟨0, [], rfl, Nat.zero_le _, hBw, hout, by show _ = _; simp, by simp, by simp⟩
  case round =>
    obtain ⟨k, row, rfl, hk, hB, hou, hrow, hr1, hr2⟩ := hrel
    obtain rfl : k = row.length := by omega
    by_cases hlt : row.length < ac.length
    · have hM' := hM.keep (Kept.of_below hB (fun _ => False)) (fun _ _ _ h => h.elim)
      have hcm := hM'.blk.cell
      obtain ⟨b, hb⟩ := get_lt hlt
      obtain ⟨b0, hb0⟩ := get_lt (l := ac) (i := 0) (by omega)
      obtain ⟨ga, ca, rfl, hc1⟩ := own_get hM'.acc (map_get (f := Value.bool) hb)
      have hc0 := own_cell hM'.acc (map_get (f := Value.bool) hb0)
      have hnx := hide (cls0_get hb)
      have hm0 := hide (show macc ac 0 = b0 from getD_some hb0)
      have hcg : wr.cell? ⟨go, row.length, none⟩ = some (.int .i64 0) := by rw [hou.cell]; exact fillC_get hlt
      have hfg := hou.frozen row.length
      have hgl := hou.lt
      have hsn := hide (take_snoc hnx.out)
      clear hb hb0
      cases b <;> cases b0
      all_goals
        go_wp2_with fail
        first
        | (have hou2 := hou.set_ row.length (.int .i64 (1 : Nat))
           rw [fillC_set hlt] at hou2
           refine ⟨⟨row.length + 1, row ++ [1], by simp, by omega, hB.setCell (by simp; omega) _, hou2, ?_, by simp, by simp⟩, by simp [intOf]; omega⟩
           show _ = _
           rw [hsn.out, hm0.out, ← hrow.out]
           rfl)
        | (refine ⟨⟨row.length + 1, row ++ [0], by simp, by omega, hB, by rw [fillC_zero hlt]; exact hou, ?_, by simp, by simp⟩, by simp [intOf]; omega⟩
           show _ = _
           rw [hsn.out, hm0.out, ← hrow.out]
           rfl)
    · have e : row.length = ac.length := by omega
      have he := hide e
      clear e
      go_wp2_with fail
      refine hQ _ _ _ _ _ _ _ _ _ _ _ _ _ _ _ _ _ _ _ wr hB ?_
      have h1 := hrow.out
      rw [List.take_of_length_le (by simp [cls0]; omega)] at h1
      rw [← h1]
      exact hou

set_option maxHeartbeats 4000000 in
set_option maxRecDepth 100000 in
theorem cls_count {w : World} {base go n : Nat} {cl : List Nat} (hcl : w.ownsRow base 3 1 (.slice (some ⟨go, 0, none⟩) n n) n (cl.map encN)) (hn : n ≤ 20000) (hv : ∀ x ∈ cl, x ≤ 60000)
    {u0 u1 u2 u3 u4 u5 u6 u7 u9 u10 u11 u12 u13 u14 u15 u16 u17 u18 u19 u20 u21 u22 u23 u24 u25 u26 u27 u28 u29 u30 u31 u32 u33 u34 u35 u36 u37 u38 u42 u43 u44 u45 u46 u47 u48 u49 u50 u51 u52 u53 u54 u55 u56 u57 u58 u59 u60 u61 u62 u63 u64 u65 u66 : Value}
    {Q : Exit → Act → World → Prop}
    (hQ : ∀ (x10 x41 x42 x43 x44 x45 x46 x47 x48 x49 : Value), Q (.exit 2) ⟨List.toArray (u0 :: u1 :: u2 :: u3 :: u4 :: u5 :: u6 :: u7 :: (.int .i64 (cntTo cl : Nat)) :: u9 :: x10 :: u11 :: u12 :: u13 :: u14 :: u15 :: u16 :: u17 :: u18 :: u19 :: u20 :: u21 :: u22 :: u23 :: u24 :: u25 :: u26 :: u27 :: u28 :: u29 :: u30 :: u31 :: u32 :: u33 :: u34 :: 
      u35 :: u36 :: u37 :: u38 :: (.slice (some ⟨go, 0, none⟩) n n) :: (.int .i64 n) :: x41 :: x42 :: x43 :: x44 :: x45 :: x46 :: x47 :: x48 :: x49 :: u50 :: u51 :: u52 :: u53 :: u54 :: u55 :: u56 :: u57 :: u58 :: u59 :: u60 :: u61 :: u62 :: u63 :: u64 :: u65 :: u66 :: 
      []), []⟩ w) :
    (Code.loop (loopBody Try.f78 1)).wp Try.prog Q ⟨List.toArray (u0 :: u1 :: u2 :: u3 :: u4 :: u5 :: u6 :: u7 :: (.int .i64 0) :: u9 :: u10 :: u11 :: u12 :: u13 :: u14 :: u15 :: u16 :: u17 :: u18 :: u19 :: u20 :: u21 :: u22 :: u23 :: u24 :: u25 :: u26 :: u27 :: u28 :: u29 :: u30 :: u31 :: u32 :: u33 :: u34 :: u35 :: u36 :: 
      u37 :: u38 :: (.slice (some ⟨go, 0, none⟩) n n) :: (.int .i64 n) :: (.int .i64 0) :: u42 :: u43 :: u44 :: u45 :: u46 :: u47 :: u48 :: u49 :: u50 :: u51 :: u52 :: u53 :: u54 :: u55 :: u56 :: u57 :: u58 :: u59 :: u60 :: u61 :: u62 :: u63 :: u64 :: u65 :: u66 :: 
      []), []⟩ w := by
  conv => arg 2; arg 1; whnf
  go_loop [8, 41] (fun cc ii => ∃ (k c : Nat), ii = .int .i64 (k : Int) ∧ k ≤ n ∧ cc = .int .i64 (c : Int) ∧ c ≤ 60001 ∧ Hid (c = (cl.take k).foldl (fun c x => max c (x + 1)) 0)) (fun _ ii => n - (intOf ii).toNat)
  case atStart => exact ⟨0, 0, rfl, Nat.zero_le _, rfl, by omega, rfl⟩
  case round =>
    obtain ⟨k, c, rfl, hk, rfl, hc, hcc⟩ := hrel
    have hlen : cl.length = n := by simpa using hcl.1
    by_cases hlt : k < n
    · obtain ⟨x, hx⟩ := get_lt (l := cl) (i := k) (by omega)
      have hc1 := own_cell hcl (map_get (f := encN) hx)
      simp only [encN] at hc1
      have hx6 := hv x (List.mem_of_getElem? hx)
      have hf := hide (foldl_take (fun c x => max c (x + 1)) 0 cl k x hx)
      clear hx hlen
      go_wp2_with fail
      refine ⟨⟨k + 1, max c (x + 1), by simp, by omega, ?_, by omega, ?_⟩, by simp [intOf]; omega⟩
      · congr 1
        split <;> omega
      · show _ = _
        rw [hf.out, ← hcc.out]
    · have hf := hide (foldl_all (fun c x => max c (x + 1)) 0 cl k (by omega))
      clear hlen
      rw [hf.out] at hcc
      go_wp2_with fail
      have := hcc.out
      subst this
      exact hQ _ _ _ _ _ _ _ _ _ _
end Go.Proofs.Ytnimlcbgeiajiaa

namespace Go.Proofs.Ytnimlcbgeiajiaa
open Go.RowKit

set_option maxHeartbeats 4000000 in
set_option maxRecDepth 100000 in
theorem cls_rounds {w0 w : World} {base gM L go cnt : Nat} {d : Int} {vacc vleaf vbr : Value} {ac : List Bool} {lf cl : List Nat} {t : List (List (List Nat))} (hM : MachA w0 base gM L vacc vleaf vbr ac lf t) (hok : MOK L ac lf t) (hL : L ≤ 8) (hn : ac.length ≤ 20000) (hd : d < 0 ∨ (0 : Int) ≤ d)
    (h0 : 0 < ac.length) (hBw : Below w0.heap.size w0 w) (hcl : w.ownsRow w0.heap.size 3 1 (.slice (some ⟨go, 0, none⟩) ac.length ac.length) ac.length (cl.map encN)) (hC : ClsAt L ac.length (mbr t) (macc ac) 0 cl cnt)
    {u2 u3 u4 u6 u7 u9 u10 u12 u13 u14 u15 u16 u17 u18 u19 u20 u21 u22 u23 u24 u25 u26 u27 u28 u29 u30 u31 u32 u33 u34 u35 u36 u37 u38 u39 u40 u41 u42 u43 u44 u45 u46 u47 u48 u49 u50 u51 u52 u53 u54 u55 u56 u57 u58 u59 u60 u61 u62 u63 u64 u65 u66 : Value}
    {Q : Exit → Act → World → Prop} (_ : Reg.NoQ Q)
    (hQ : ∀ (x8 x11 x12 x13 x50 x51 x52 x53 x54 x55 x56 x57 x58 x59 x60 x61 x62 x63 x64 x65 : Value) (w' : World) (go' : Nat) (cl' : List Nat), Below w0.heap.size w0 w' → w'.ownsRow w0.heap.size 3 1 (.slice (some ⟨go', 0, none⟩) ac.length ac.length) ac.length (cl'.map encN) → ClsD L ac.length (mbr t) (macc ac) d cl' →
      Q (.exit 4) ⟨List.toArray ((.pointer (some ⟨gM, 0, none⟩)) :: (.int .i64 d) :: u2 :: u3 :: u4 :: (.slice (some ⟨go', 0, none⟩) ac.length ac.length) :: u6 :: u7 :: x8 :: u9 :: u10 :: x11 :: x12 :: x13 :: u14 :: u15 :: u16 :: u17 :: u18 :: u19 :: u20 :: u21 :: u22 :: u23 :: u24 :: u25 :: 
      u26 :: u27 :: u28 :: u29 :: u30 :: u31 :: u32 :: u33 :: u34 :: u35 :: u36 :: u37 :: u38 :: u39 :: u40 :: u41 :: u42 :: u43 :: u44 :: u45 :: u46 :: u47 :: u48 :: u49 :: x50 :: x51 :: x52 :: x53 :: x54 :: x55 :: x56 :: x57 :: x58 :: x59 :: x60 :: x61 :: x62 :: 
      x63 :: x64 :: x65 :: u66 :: []), []⟩ w') :
    (Code.loop (loopBody Try.f78 2)).wp Try.prog Q ⟨List.toArray ((.pointer (some ⟨gM, 0, none⟩)) :: (.int .i64 d) :: u2 :: u3 :: u4 :: (.slice (some ⟨go, 0, none⟩) ac.length ac.length) :: u6 :: u7 :: (.int .i64 cnt) :: u9 :: u10 :: (.int .i64 0) :: u12 :: u13 :: u14 :: u15 :: u16 :: u17 :: u18 :: u19 :: u20 :: u21 :: u22 :: 
      u23 :: u24 :: u25 :: u26 :: u27 :: u28 :: u29 :: u30 :: u31 :: u32 :: u33 :: u34 :: u35 :: u36 :: u37 :: u38 :: u39 :: u40 :: u41 :: u42 :: u43 :: u44 :: u45 :: u46 :: u47 :: u48 :: u49 :: u50 :: u51 :: u52 :: u53 :: u54 :: u55 :: u56 :: u57 :: u58 :: u59 :: 
      u60 :: u61 :: u62 :: u63 :: u64 :: u65 :: u66 :: []), []⟩ w := by
  conv => arg 2; arg 1; whnf
  go_loopw [5, 8, 11] (fun vv cc rr wr => ∃ (r c g : Nat) (l : List Nat), vv = .slice (some ⟨g, 0, none⟩) ac.length ac.length ∧ cc = .int .i64 (c : Int) ∧ rr = .int .i64 (r : Int) ∧ Below w0.heap.size w0 wr ∧ wr.ownsRow w0.heap.size 3 1 (.slice (some ⟨g, 0, none⟩) ac.length ac.length) ac.length (l.map encN) ∧
    Hid (ClsAt L ac.length (mbr t) (macc ac) r l c) ∧ r + 1 ≤ c ∧ c ≤ ac.length ∧ (d < 0 ∨ (r : Int) ≤ d)) (fun _ cc _ _ => ac.length - (intOf cc).toNat)
  case atStart => exact ⟨0, cnt, go, cl, rfl, rfl, rfl, hBw, hcl, hC, hC.pos h0, hC.le, hd⟩
  case round =>
    obtain ⟨r, c, g, l, rfl, rfl, rfl, hB, hrow, hCC, hr1, hr2, hrd⟩ := hrel
    have hok2 := hide hok
    clear hok hC hcl hd
    by_cases hrr : (r : Int) = d
    · have hne : ((r : Int) != d) = false := by simp [hrr]
      have hHr := hide hrr
      clear hrr
      go_wp2_with fail
      exact hQ _ _ _ _ _ _ _ _ _ _ _ _ _ _ _ _ _ _ _ _ wr g l hB hrow (hCC.out.atDepth hHr.out)
    · have hne : ((r : Int) != d) = true := by simp [hrr]
      have hHr := hide hrr
      clear hrr
      have hM' := hM.keep (Kept.of_below hB (fun _ => False)) (fun _ _ _ h => h.elim)
      have hsz := hB.size
      go_wp2_with (go_at_call 107; refine Calls.ret (refine_any hM' hok2.out hrow hL hn) ?_; rintro v w3 ⟨hb3, g3, ms, os, rfl, hrow3, hS3⟩; have hSS := hide hS3; have hb33 := hide hb3; clear hS3 hb3)
      · have he : ms.length = c := by
          have h1 : ((ms.length : Int) == (c : Int)) = true := by assumption
          have h2 := beq_iff_eq.1 h1
          omega
        have hC' := hCC.out.step hok2.out.isM hn hSS.out
        rw [he] at hC'
        have hb3' : Below w0.heap.size wr w3 := hb33.out.mono hsz
        exact hQ _ _ _ _ _ _ _ _ _ _ _ _ _ _ _ _ _ _ _ _ w3 g l (hB.trans hb3') ((Kept.of_below hb33.out (fun _ => False)).ownsRow hrow (fun _ _ h => h)) (hCC.out.atRest hok2.out.isM hC' hrd)
      · have he : ms.length ≠ c := by
          have h1 : ((ms.length : Int) == (c : Int)) = false := by assumption
          intro e
          rw [e] at h1
          simp at h1
        have hC' := hCC.out.step hok2.out.isM hn hSS.out
        have hg := hCC.out.grow hC'
        have hle := hC'.le
        have hHr' := hHr.out
        have hb3' : Below w0.heap.size wr w3 := hb33.out.mono hsz
        exact ⟨⟨r + 1, ms.length, g3, os, rfl, rfl, by simp, hB.trans hb3', own_weak hrow3 hsz, hC', by omega, hle, by omega⟩, by simp [intOf]; omega⟩

set_option maxHeartbeats 4000000 in
set_option maxRecDepth 100000 in
theorem classes_any {w : World} {base gM L : Nat} {d : Int} {vacc vleaf vbr : Value} {ac : List Bool} {lf : List Nat} {t : List (List (List Nat))} (hM : MachA w base gM L vacc vleaf vbr ac lf t) (hok : MOK L ac lf t) (hL : L ≤ 8) (hn : ac.length ≤ 20000) (h0 : 0 < ac.length) :
    Calls Try.prog 78 #[.pointer (some ⟨gM, 0, none⟩), .int .i64 d] w (Ret fun v w' => Below w.heap.size w w' ∧ ∃ (go : Nat) (cl : List Nat), v = .slice (some ⟨go, 0, none⟩) ac.length ac.length ∧
      w'.ownsRow w.heap.size 3 1 (.slice (some ⟨go, 0, none⟩) ac.length ac.length) ac.length (cl.map encN) ∧ ClsD L ac.length (mbr t) (macc ac) d cl) := by
  obtain ⟨go, w1, hmk, hrow, hb1, hgo⟩ := mk_row w ac.length (by omega)
  rw [← fillC_nil] at hrow
  obtain ⟨A, c, rfl⟩ := slice_of_own hM.acc
  have hM1 := hM.keep (Kept.of_below hb1 (fun _ => False)) (fun _ _ _ h => h.elim)
  have hcm := hM1.blk.cell
  go_enter Try.func78, Try.ntmps78
  go_wp2_with (go_at_call 75; refine (states_any hM hn).mono ?_; rintro e w' ⟨rfl, rfl⟩)
  refine cls_first hM hn hb1 hrow hgo ?_
  iterate 19 (intro _)
  intro w2 hB2 hr2
  have hown := fillC_own hr2 (by simp [cls0]) hgo (by omega)
  have hC0 := hide (ClsAt.zero (L := L) (br := mbr t) h0)
  have hv : ∀ x ∈ cls0 ac, x ≤ 60000 := fun x hx => by
    have h1 := (hC0.out.mem x).1 hx
    have h2 := hC0.out.le
    omega
  clear hmk hcm hr2
  go_wp2_with fail
  refine cls_count hown hn hv ?_
  iterate 10 (intro _)
  go_wp2_with fail
  refine cls_rounds hM hok hL hn (by omega) h0 hB2 hown hC0.out ?_ ?_
  · repeat (first | exact Reg.NoQ.body (fun _ _ h => h) (fun _ h => h) | refine Reg.NoQ.then ?_ | refine Reg.NoQ.inBlock ?_)
  iterate 20 (intro _)
  intro w3 g3 cl3 hB3 hr3 hC3
  have hCC := hide hC3
  clear hC3
  go_wp2_with fail
  go_ret
  exact ⟨hB3, g3, cl3, rfl, hr3, hCC.out⟩
end Go.Proofs.Ytnimlcbgeiajiaa
