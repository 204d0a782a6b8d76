/-
  CompareInts, SameInts and SameAutomaton at equal data, and small: the walks.
  CompareInts, SameInts and SameAutomaton at any data: the walks.
  A small automaton has few branches.
-/
import Derived.Test.YtnimlcbgeiajiaaQD
import Derived.Test.YtnimlcbgeiajiaaVE

namespace Go.Proofs.Ytnimlcbgeiajiaa
open Go.RowKit

set_option maxHeartbeats 2000000 in
set_option maxRecDepth 100000 in
theorem compareInts_eq {w : World} {B1 B2 c1 c2 : Nat} {A1 A2 : Option Addr} {xs : List Int} (h1 : Sl w B1 1 encI A1 xs) (h2 : Sl w B2 1 encI A2 xs) (hB1 : B1 ≤ w.heap.size) (hB2 : B2 ≤ w.heap.size) :
    Calls Try.prog 77 #[.slice A1 xs.length c1, .slice A2 xs.length c2] w (Ret fun r w' => r = .int .i64 0 ∧ Below w.heap.size w w') := by
  have hn := h1.1
  go_enter Try.func77, Try.ntmps77
  go_wp2_with fail
  go_loopw [5] (fun ii wr => ∃ (i : Nat), ii = .int .i64 (i : Int) ∧ i ≤ xs.length ∧ Below w.heap.size w wr) (fun ii _ => xs.length - (intOf ii).toNat)
  case atStart => exact ⟨0, rfl, Nat.zero_le _, Below.refl _ _⟩
  case round =>
    obtain ⟨i, rfl, hi, hB⟩ := hrel
    by_cases hlt : i < xs.length
    · obtain ⟨b1, o1, x, rfl, hb1, hx, hc1⟩ := h1.at hlt
      obtain ⟨b2, o2, y, rfl, hb2, hy, hc2⟩ := h2.at hlt
      have hxy : y = x := by rw [hx] at hy; exact (Option.some.inj hy).symm
      subst hxy
      have e1 := (hB.cell (by show b1 < _; omega)).trans (hc1 0 (by omega))
      have e2 := (hB.cell (by show b2 < _; omega)).trans (hc2 0 (by omega))
      simp only [Nat.mul_one, Nat.add_zero, encI] at e1 e2
      have hst := hide ((hB.trans ((drew_below wr).mono hB.size)).trans ((drew_below wr.drew).mono hB.size))
      clear hx hy hc1 hc2
      go_wp2_with fail
      refine Reg.region_plain [0, 0, 3, 7, 0, 0, 48, 112, 255] (by kernel_rfl) (by repeat (first | exact Reg.NoQ.body (fun _ _ h => h) (fun _ h => h) | exact Reg.NoQ.body (fun _ _ h => Ending.noConfusion h.1) (fun _ h => Ending.noConfusion h.1) | refine Reg.NoQ.then ?_ | refine Reg.NoQ.inBlock ?_)) ?_
      go_wp2_with fail
      refine Reg.region_plain [0, 0, 3, 7, 0, 0, 48, 112, 255] (by kernel_rfl) (by repeat (first | exact Reg.NoQ.body (fun _ _ h => h) (fun _ h => h) | exact Reg.NoQ.body (fun _ _ h => Ending.noConfusion h.1) (fun _ h => Ending.noConfusion h.1) | refine Reg.NoQ.then ?_ | refine Reg.NoQ.inBlock ?_)) ?_
      go_wp2_with fail
      exact ⟨⟨i + 1, by simp, by omega, hst.out⟩, by simp [intOf]; omega⟩
    · go_wp2_with fail
      go_ret
      exact ⟨rfl, hB⟩

set_option maxHeartbeats 1000000 in
theorem sameInts_eq {w : World} {B1 B2 c1 c2 : Nat} {A1 A2 : Option Addr} {xs : List Int} (h1 : Sl w B1 1 encI A1 xs) (h2 : Sl w B2 1 encI A2 xs) (hB1 : B1 ≤ w.heap.size) (hB2 : B2 ≤ w.heap.size) :
    Calls Try.prog 50 #[.slice A1 xs.length c1, .slice A2 xs.length c2] w (Ret fun r w' => r = .bool true ∧ Below w.heap.size w w') := by
  go_enter Try.func50, Try.ntmps50
  go_wp2_with (go_at_call 77; refine Calls.ret (compareInts_eq h1 h2 hB1 hB2) ?_; rintro v w2 ⟨rfl, hb⟩; have hb2 := hide hb; clear hb)
  go_ret
  exact ⟨rfl, hb2.out⟩

set_option maxHeartbeats 4000000 in
set_option maxRecDepth 100000 in
theorem sameAutomaton_eq {v1 v2 : Value} {a : TA} {w : World} (h : IsTA w w.heap.size v1 a) (h' : IsTA w w.heap.size v2 a) :
    Calls Try.prog 23 #[v1, v2] w (Ret fun r w' => r = .bool true ∧ Below w.heap.size w w') := by
  obtain ⟨A1, c1, A2, c2, A3, c3, rfl, h1, h2, h3⟩ := h
  obtain ⟨A4, c4, A5, c5, A6, c6, rfl, h4, h5, h6⟩ := h'
  obtain ⟨w1, hw1, hb1, hB1, hk1⟩ := box_blk w #[.int .i64 a.letters, .int .i64 a.states, .slice A1 a.accept.length c1, .slice A2 a.leaves.length c2, .slice A3 a.branches.length c3] 26
  obtain ⟨w2, hw2, hb2, hB2, hk2⟩ := box_blk w1 #[.int .i64 a.letters, .int .i64 a.states, .slice A4 a.accept.length c4, .slice A5 a.leaves.length c5, .slice A6 a.branches.length c6] 26
  have hsz1 := hb1.size
  have hsz2 := hb2.size
  have hb02 := hb1.trans (hb2.mono hsz1)
  have hB12 := hB1.kept hk2 id
  have hcb1 := hB12.cell
  have hcb2 := hB2.cell
  have hn1 := h1.1
  have hn2 := h2.1
  have hn3 := h3.1
  go_enter Try.func23, Try.ntmps23
  go_wp2_with fail
  go_loopw [5] (fun ii wr => ∃ (i : Nat), ii = .int .i64 (i : Int) ∧ i ≤ a.leaves.length ∧ Below w2.heap.size w2 wr) (fun ii _ => a.leaves.length - (intOf ii).toNat)
  case atStart => exact ⟨0, rfl, Nat.zero_le _, Below.refl _ _⟩
  case round =>
    obtain ⟨i, rfl, hi, hB⟩ := hrel
    have hcr1 := (hB12.kept (Kept.of_below hB (fun _ => False)) id).cell
    have hcr2 := (hB2.kept (Kept.of_below hB (fun _ => False)) id).cell
    by_cases hlt : i < a.leaves.length
    · obtain ⟨b1, o1, x, rfl, hb1', hx, hc1⟩ := h2.at hlt
      obtain ⟨b2, o2, y, rfl, hb2', hy, hc2⟩ := h5.at hlt
      have hxy : y = x := by rw [hx] at hy; exact (Option.some.inj hy).symm
      subst hxy
      have e1 := fun j hj => (hB.cell (by show b1 < _; omega)).trans ((hb02.cell (by exact hb1')).trans (hc1 j hj))
      have e2 := fun j hj => (hB.cell (by show b2 < _; omega)).trans ((hb02.cell (by exact hb2')).trans (hc2 j hj))
      have e10 := e1 0 (by omega)
      have e11 := e1 1 (by omega)
      have e20 := e2 0 (by omega)
      have e21 := e2 1 (by omega)
      simp only [Nat.add_zero, encL] at e10 e11 e20 e21
      have hst := hide (hB.trans ((drew_below wr).mono hB.size))
      clear hx hy hc1 hc2 e1 e2
      go_wp2_with fail
      refine Reg.region_plain [0, 1, 0, 7, 15, 0, 32, 0, 224, 480, 1023] (by kernel_rfl) (by repeat (first | exact Reg.NoQ.body (fun _ _ h => h) (fun _ h => h) | exact Reg.NoQ.body (fun _ _ h => Ending.noConfusion h.1) (fun _ h => Ending.noConfusion h.1) | refine Reg.NoQ.then ?_ | refine Reg.NoQ.inBlock ?_)) ?_
      go_wp2_with fail
      exact ⟨⟨i + 1, by simp, by omega, hst.out⟩, by simp [intOf]; omega⟩
    · go_wp2_with fail
      obtain ⟨wa, rfl⟩ : ∃ wa : World, wa = wr := ⟨_, rfl⟩
      have hBa := hide hB
      go_loopw [6] (fun ii wr => ∃ (i : Nat), ii = .int .i64 (i : Int) ∧ i ≤ a.branches.length ∧ Below w2.heap.size w2 wr) (fun ii _ => a.branches.length - (intOf ii).toNat)
      case atStart => exact ⟨0, rfl, Nat.zero_le _, hB⟩
      case round =>
        obtain ⟨i', rfl, hi', hB'⟩ := hrel
        have hcs1 := (hB12.kept (Kept.of_below hB' (fun _ => False)) id).cell
        have hcs2 := (hB2.kept (Kept.of_below hB' (fun _ => False)) id).cell
        by_cases hlt' : i' < a.branches.length
        · obtain ⟨b1, o1, x, rfl, hb1', hx, hc1⟩ := h3.at hlt'
          obtain ⟨b2, o2, y, rfl, hb2', hy, hc2⟩ := h6.at hlt'
          have hxy : y = x := by rw [hx] at hy; exact (Option.some.inj hy).symm
          subst hxy
          have e1 := fun j hj => (hB'.cell (by show b1 < _; omega)).trans ((hb02.cell (by exact hb1')).trans (hc1 j hj))
          have e2 := fun j hj => (hB'.cell (by show b2 < _; omega)).trans ((hb02.cell (by exact hb2')).trans (hc2 j hj))
          have e10 := e1 0 (by omega)
          have e11 := e1 1 (by omega)
          have e12 := e1 2 (by omega)
          have e13 := e1 3 (by omega)
          have e20 := e2 0 (by omega)
          have e21 := e2 1 (by omega)
          have e22 := e2 2 (by omega)
          have e23 := e2 3 (by omega)
          simp only [Nat.add_zero, encBr] at e10 e11 e12 e13 e20 e21 e22 e23
          have hst := hide (hB'.trans ((drew_below wr).mono hB'.size))
          clear hx hy hc1 hc2 e1 e2 hcr1 hcr2
          go_wp2_with fail
          refine Reg.region_plain [0, 1, 0, 7, 15, 0, 32, 0, 224, 480, 1023] (by kernel_rfl) (by repeat (first | exact Reg.NoQ.body (fun _ _ h => h) (fun _ h => h) | exact Reg.NoQ.body (fun _ _ h => Ending.noConfusion h.1) (fun _ h => Ending.noConfusion h.1) | refine Reg.NoQ.then ?_ | refine Reg.NoQ.inBlock ?_)) ?_
          go_wp2_with fail
          exact ⟨⟨i' + 1, by simp, by omega, hst.out⟩, by simp [intOf]; omega⟩
        · have hsw := hB'.size
          have hS1 := hide (((h1.below hb02).mono (show w.heap.size ≤ w2.heap.size by omega)).below hB')
          have hS4 := hide (((h4.below hb02).mono (show w.heap.size ≤ w2.heap.size by omega)).below hB')
          clear hcr1 hcr2
          go_wp2_with (go_at_call 50; refine Calls.ret (sameInts_eq hS1.out hS4.out (by omega) (by omega)) ?_; rintro v w9 ⟨rfl, hb⟩; have hb9 := hide hb; clear hb)
          go_ret
          exact ⟨rfl, (hb02.trans (hB'.mono (by omega))).trans (hb9.out.mono (by omega))⟩

def TA.small (a : TA) : Bool := !a.big && (decide (a.states ≤ 5) && decide (a.letters ≤ 3) || !a.valid)
set_option maxHeartbeats 4000000 in
set_option maxRecDepth 100000 in
theorem small_any {v : Value} {a : TA} {w : World} (h : IsTA w w.heap.size v a) :
    Calls Try.prog 24 #[v] w (Ret fun r w' => r = .bool a.small ∧ Below w.heap.size w w') := by
  obtain ⟨A1, c1, A2, c2, A3, c3, rfl, h1, h2, h3⟩ := h
  obtain ⟨w1, hw1, hb1, hB1, hk1⟩ := box_blk w #[.int .i64 a.letters, .int .i64 a.states, .slice A1 a.accept.length c1, .slice A2 a.leaves.length c2, .slice A3 a.branches.length c3] 26
  have hsz := hb1.size
  have hT : IsTA w1 w1.heap.size (.agg #[.int .i64 a.letters, .int .i64 a.states, .slice A1 a.accept.length c1, .slice A2 a.leaves.length c2, .slice A3 a.branches.length c3]) a :=
    ⟨A1, c1, A2, c2, A3, c3, rfl, (h1.below hb1).mono hsz, (h2.below hb1).mono hsz, (h3.below hb1).mono hsz⟩
  have hHT := hide hT
  have hcb := hB1.cell
  clear hT h1 h2 h3
  cases hbig : a.big
  · have hBG := hide hbig
    clear hbig
    by_cases hs5 : a.states ≤ 5 ∧ a.letters ≤ 3
    · have hfin : Hid (a.small = true) := by show _ = _; simp [TA.small, hBG.out, hs5.1, hs5.2]
      obtain ⟨hs5, hs3⟩ := hs5
      go_enter Try.func24, Try.ntmps24
      go_wp2_with (go_at_call 16; refine (Big_any _ _ _ hHT.out).mono ?_; rintro e w2 ⟨rfl, hb⟩; rw [hBG.out]; have hb2 := hide hb; have hcb2 := (hB1.kept (Kept.of_below hb (fun _ => False)) id).cell; clear hb)
      go_ret
      exact ⟨by rw [hfin.out]; rfl, hb1.trans (hb2.out.mono hsz)⟩
    · have hfin : Hid (a.small = !a.valid) := by
        show _ = _
        have : (decide (a.states ≤ 5) && decide (a.letters ≤ 3)) = false := by simp; omega
        simp only [TA.small, hBG.out, this]
        rfl
      have hHS := hide hs5
      by_cases h5 : a.states ≤ 5
      · have h3 : ¬ a.letters ≤ 3 := fun h => hHS.out ⟨h5, h⟩
        clear hs5
        cases hv : a.valid
        all_goals
          have hV := hide hv
          clear hv
          go_enter Try.func24, Try.ntmps24
          go_wp2_with (first | (go_at_call 16; refine (Big_any _ _ _ hHT.out).mono ?_; rintro e w2 ⟨rfl, hb⟩; rw [hBG.out]; have hb2 := hide hb; have hsz2 := hb.size; have hT2 := hide (hHT.out.keep (fun _ hp => hb.cell hp) hsz2); have hcb2 := (hB1.kept (Kept.of_below hb (fun _ => False)) id).cell; clear hb) | (go_at_call 19; refine (refValidate_any _ _ _ hT2.out).mono ?_; rintro e w3 ⟨rfl, hb⟩; rw [hV.out]; simp only [errno]; have hb3 := hide hb; clear hb))
          go_ret
          exact ⟨by rw [hfin.out, hV.out]; first | rfl | (simp; done) | (simp; omega), (hb1.trans (hb2.out.mono hsz)).trans (hb3.out.mono (by omega))⟩
      · clear hs5
        cases hv : a.valid
        all_goals
          have hV := hide hv
          clear hv
          go_enter Try.func24, Try.ntmps24
          go_wp2_with (first | (go_at_call 16; refine (Big_any _ _ _ hHT.out).mono ?_; rintro e w2 ⟨rfl, hb⟩; rw [hBG.out]; have hb2 := hide hb; have hsz2 := hb.size; have hT2 := hide (hHT.out.keep (fun _ hp => hb.cell hp) hsz2); have hcb2 := (hB1.kept (Kept.of_below hb (fun _ => False)) id).cell; clear hb) | (go_at_call 19; refine (refValidate_any _ _ _ hT2.out).mono ?_; rintro e w3 ⟨rfl, hb⟩; rw [hV.out]; simp only [errno]; have hb3 := hide hb; clear hb))
          go_ret
          exact ⟨by rw [hfin.out, hV.out]; first | rfl | (simp; done) | (simp; omega), (hb1.trans (hb2.out.mono hsz)).trans (hb3.out.mono (by omega))⟩
  · have hBG := hide hbig
    clear hbig
    have hfin : Hid (a.small = false) := by show _ = _; simp [TA.small, hBG.out]
    go_enter Try.func24, Try.ntmps24
    go_wp2_with (go_at_call 16; refine (Big_any _ _ _ hHT.out).mono ?_; rintro e w2 ⟨rfl, hb⟩; rw [hBG.out]; have hb2 := hide hb; clear hb)
    go_ret
    exact ⟨by rw [hfin.out]; rfl, hb1.trans (hb2.out.mono hsz)⟩
end Go.Proofs.Ytnimlcbgeiajiaa

namespace Go.Proofs.Ytnimlcbgeiajiaa
open Go.RowKit

deriving instance DecidableEq for Leaf
deriving instance DecidableEq for Branch
deriving instance DecidableEq for TA
theorem take_snoc_eq {α : Type} {xs ys : List α} {i : Nat} {x : α} (hx : xs[i]? = some x) (hy : ys[i]? = some x) (h : xs.take i = ys.take i) : xs.take (i + 1) = ys.take (i + 1) := by
  rw [List.take_add_one, List.take_add_one, h, hx, hy]
theorem take_all_eq {α : Type} {xs ys : List α} {i : Nat} (h : xs.take i = ys.take i) (h1 : xs.length ≤ i) (h2 : ys.length ≤ i) : xs = ys := by
  rw [List.take_of_length_le h1, List.take_of_length_le h2] at h
  exact h
theorem ne_of_at {α : Type} {xs ys : List α} {i : Nat} {x y : α} (hx : xs[i]? = some x) (hy : ys[i]? = some y) (h : x ≠ y) : xs ≠ ys := by
  rintro rfl
  rw [hx] at hy
  exact h (Option.some.inj hy)

set_option maxHeartbeats 4000000 in
set_option maxRecDepth 100000 in
theorem compareInts_any {w : World} {B1 B2 c1 c2 : Nat} {A1 A2 : Option Addr} {xs ys : List Int} (h1 : Sl w B1 1 encI A1 xs) (h2 : Sl w B2 1 encI A2 ys) (hB1 : B1 ≤ w.heap.size) (hB2 : B2 ≤ w.heap.size) :
    Calls Try.prog 77 #[.slice A1 xs.length c1, .slice A2 ys.length c2] w (Ret fun r w' => (∃ z : Int, r = .int .i64 z ∧ (z = 0 ↔ xs = ys)) ∧ Below w.heap.size w w') := by
  have hn := h1.1
  have hm := h2.1
  go_enter Try.func77, Try.ntmps77
  go_wp2_with fail
  go_loopw [5] (fun ii wr => ∃ (i : Nat), ii = .int .i64 (i : Int) ∧ i ≤ xs.length ∧ i ≤ ys.length ∧ Below w.heap.size w wr ∧ Hid (xs.take i = ys.take i)) (fun ii _ => xs.length - (intOf ii).toNat)
  case atStart => exact ⟨0, rfl, Nat.zero_le _, Nat.zero_le _, Below.refl _ _, by show _ = _; simp⟩
  case round =>
    obtain ⟨i, rfl, hi, hi2, hB, hT⟩ := hrel
    by_cases hlt : i < xs.length
    · by_cases hlt2 : i < ys.length
      · obtain ⟨b1, o1, x, rfl, hb1, hx, hc1⟩ := h1.at hlt
        obtain ⟨b2, o2, y, rfl, hb2, hy, hc2⟩ := h2.at hlt2
        have e1 := (hB.cell (by show b1 < _; omega)).trans (hc1 0 (by omega))
        have e2 := (hB.cell (by show b2 < _; omega)).trans (hc2 0 (by omega))
        simp only [Nat.mul_one, Nat.add_zero, encI] at e1 e2
        have hst0 := hide (hB.trans ((drew_below wr).mono hB.size))
        have hst := hide ((hB.trans ((drew_below wr).mono hB.size)).trans ((drew_below wr.drew).mono hB.size))
        have hHX := hide hx
        have hHY := hide hy
        clear hx hy hc1 hc2
        rcases Int.lt_trichotomy x y with hxy | hxy | hxy
        · have hne := hide (ne_of_at hHX.out hHY.out (by omega))
          go_wp2_with fail
          refine Reg.region_plain [0, 0, 3, 7, 0, 0, 48, 112, 255] (by kernel_rfl) (by repeat (first | exact Reg.NoQ.body (fun _ _ h => h) (fun _ h => h) | exact Reg.NoQ.body (fun _ _ h => Ending.noConfusion h.1) (fun _ h => Ending.noConfusion h.1) | refine Reg.NoQ.then ?_ | refine Reg.NoQ.inBlock ?_)) ?_
          go_wp2_with fail
          go_ret
          exact ⟨⟨_, rfl, by simp [hne.out]⟩, hst0.out⟩
        · subst hxy
          go_wp2_with fail
          refine Reg.region_plain [0, 0, 3, 7, 0, 0, 48, 112, 255] (by kernel_rfl) (by repeat (first | exact Reg.NoQ.body (fun _ _ h => h) (fun _ h => h) | exact Reg.NoQ.body (fun _ _ h => Ending.noConfusion h.1) (fun _ h => Ending.noConfusion h.1) | refine Reg.NoQ.then ?_ | refine Reg.NoQ.inBlock ?_)) ?_
          go_wp2_with fail
          refine Reg.region_plain [0, 0, 3, 7, 0, 0, 48, 112, 255] (by kernel_rfl) (by repeat (first | exact Reg.NoQ.body (fun _ _ h => h) (fun _ h => h) | exact Reg.NoQ.body (fun _ _ h => Ending.noConfusion h.1) (fun _ h => Ending.noConfusion h.1) | refine Reg.NoQ.then ?_ | refine Reg.NoQ.inBlock ?_)) ?_
          go_wp2_with fail
          exact ⟨⟨i + 1, by simp, by omega, by omega, hst.out, take_snoc_eq hHX.out hHY.out hT.out⟩, by simp [intOf]; omega⟩
        · have hne := hide (ne_of_at hHX.out hHY.out (by omega))
          have hnl : ¬ x < y := by omega
          go_wp2_with fail
          refine Reg.region_plain [0, 0, 3, 7, 0, 0, 48, 112, 255] (by kernel_rfl) (by repeat (first | exact Reg.NoQ.body (fun _ _ h => h) (fun _ h => h) | exact Reg.NoQ.body (fun _ _ h => Ending.noConfusion h.1) (fun _ h => Ending.noConfusion h.1) | refine Reg.NoQ.then ?_ | refine Reg.NoQ.inBlock ?_)) ?_
          go_wp2_with fail
          refine Reg.region_plain [0, 0, 3, 7, 0, 0, 48, 112, 255] (by kernel_rfl) (by repeat (first | exact Reg.NoQ.body (fun _ _ h => h) (fun _ h => h) | exact Reg.NoQ.body (fun _ _ h => Ending.noConfusion h.1) (fun _ h => Ending.noConfusion h.1) | refine Reg.NoQ.then ?_ | refine Reg.NoQ.inBlock ?_)) ?_
          go_wp2_with fail
          go_ret
          exact ⟨⟨_, rfl, by simp [hne.out]⟩, hst.out⟩
      · have hne : Hid (xs ≠ ys) := fun e => by rw [e] at hlt; exact hlt2 hlt
        have hlt3 : ys.length < xs.length := by omega
        have hlt4 : ¬ xs.length < ys.length := by omega
        go_wp2_with fail
        go_ret
        exact ⟨⟨_, rfl, by simp [hne.out]⟩, hB⟩
    · by_cases hlt2 : i < ys.length
      · have hne : Hid (xs ≠ ys) := fun e => by rw [← e] at hlt2; exact hlt hlt2
        have hlt4 : xs.length < ys.length := by omega
        go_wp2_with fail
        go_ret
        exact ⟨⟨_, rfl, by simp [hne.out]⟩, hB⟩
      · have he : Hid (xs = ys) := take_all_eq hT.out (by omega) (by omega)
        have hlt4 : ¬ xs.length < ys.length := by omega
        have hlt3 : ¬ ys.length < xs.length := by omega
        go_wp2_with fail
        go_ret
        exact ⟨⟨_, rfl, by simp [he.out]⟩, hB⟩

set_option maxHeartbeats 1000000 in
theorem sameInts_any {w : World} {B1 B2 c1 c2 : Nat} {A1 A2 : Option Addr} {xs ys : List Int} (h1 : Sl w B1 1 encI A1 xs) (h2 : Sl w B2 1 encI A2 ys) (hB1 : B1 ≤ w.heap.size) (hB2 : B2 ≤ w.heap.size) :
    Calls Try.prog 50 #[.slice A1 xs.length c1, .slice A2 ys.length c2] w (Ret fun r w' => r = .bool (decide (xs = ys)) ∧ Below w.heap.size w w') := by
  go_enter Try.func50, Try.ntmps50
  go_wp2_with (go_at_call 77; refine Calls.ret (compareInts_any h1 h2 hB1 hB2) ?_; rintro v w2 ⟨⟨z, rfl, hz⟩, hb⟩; have hb2 := hide hb; have hZ := hide hz; clear hb hz)
  go_ret
  exact ⟨congrArg Value.bool (decide_eq_decide.2 hZ.out), hb2.out⟩

set_option maxHeartbeats 8000000 in
set_option maxRecDepth 100000 in
theorem sameAutomaton_any {v1 v2 : Value} {a b : TA} {w : World} (h : IsTA w w.heap.size v1 a) (h' : IsTA w w.heap.size v2 b) :
    Calls Try.prog 23 #[v1, v2] w (Ret fun r w' => r = .bool (decide (a = b)) ∧ Below w.heap.size w w') := by
  obtain ⟨A1, c1, A2, c2, A3, c3, rfl, h1, h2, h3⟩ := h
  obtain ⟨A4, c4, A5, c5, A6, c6, rfl, h4, h5, h6⟩ := h'
  obtain ⟨La, Sa, ac, lf, br⟩ := a
  obtain ⟨Lb, Sb, ac', lf', br'⟩ := b
  simp only at h1 h2 h3 h4 h5 h6 ⊢
  obtain ⟨n2, hn2⟩ : ∃ n, lf.length = n := ⟨_, rfl⟩
  obtain ⟨n3, hn3⟩ : ∃ n, br.length = n := ⟨_, rfl⟩
  obtain ⟨m2, hm2⟩ : ∃ n, lf'.length = n := ⟨_, rfl⟩
  obtain ⟨m3, hm3⟩ : ∃ n, br'.length = n := ⟨_, rfl⟩
  have b2 : n2 ≤ 9223372036854775807 := hn2 ▸ h2.1
  have b3 : n3 ≤ 9223372036854775807 := hn3 ▸ h3.1
  rw [hn2, hn3, hm2, hm3]
  have HN2 := hide hn2
  have HN3 := hide hn3
  have HM2 := hide hm2
  have HM3 := hide hm3
  clear hn2 hn3 hm2 hm3
  obtain ⟨w1, hw1, hb1, hB1, hk1⟩ := box_blk w #[.int .i64 La, .int .i64 Sa, .slice A1 ac.length c1, .slice A2 n2 c2, .slice A3 n3 c3] 26
  obtain ⟨w2, hw2, hb2, hB2, hk2⟩ := box_blk w1 #[.int .i64 Lb, .int .i64 Sb, .slice A4 ac'.length c4, .slice A5 m2 c5, .slice A6 m3 c6] 26
  have hsz1 := hb1.size
  have hsz2 := hb2.size
  have hb02 := hb1.trans (hb2.mono hsz1)
  have hB12 := hB1.kept hk2 id
  have hcb1 := hB12.cell
  have hcb2 := hB2.cell
  by_cases g1 : La = Lb
  case neg =>
    have hne : Hid ((⟨La, Sa, ac, lf, br⟩ : TA) ≠ ⟨Lb, Sb, ac', lf', br'⟩) := fun e => g1 (congrArg TA.letters e)
    go_enter Try.func23, Try.ntmps23
    go_wp2_with fail
    go_ret
    exact ⟨congrArg Value.bool (decide_eq_false hne.out).symm, hb02⟩
  subst g1
  by_cases g2 : Sa = Sb
  case neg =>
    have hne : Hid ((⟨La, Sa, ac, lf, br⟩ : TA) ≠ ⟨La, Sb, ac', lf', br'⟩) := fun e => g2 (congrArg TA.states e)
    go_enter Try.func23, Try.ntmps23
    go_wp2_with fail
    go_ret
    exact ⟨congrArg Value.bool (decide_eq_false hne.out).symm, hb02⟩
  subst g2
  by_cases g3 : n2 = m2
  case neg =>
    have hne : Hid ((⟨La, Sa, ac, lf, br⟩ : TA) ≠ ⟨La, Sa, ac', lf', br'⟩) := fun e => g3 (by rw [← HN2.out, ← HM2.out]; exact congrArg (fun a => a.leaves.length) e)
    go_enter Try.func23, Try.ntmps23
    go_wp2_with fail
    go_ret
    exact ⟨congrArg Value.bool (decide_eq_false hne.out).symm, hb02⟩
  subst g3
  by_cases g4 : n3 = m3
  case neg =>
    have hne : Hid ((⟨La, Sa, ac, lf, br⟩ : TA) ≠ ⟨La, Sa, ac', lf', br'⟩) := fun e => g4 (by rw [← HN3.out, ← HM3.out]; exact congrArg (fun a => a.branches.length) e)
    go_enter Try.func23, Try.ntmps23
    go_wp2_with fail
    go_ret
    exact ⟨congrArg Value.bool (decide_eq_false hne.out).symm, hb02⟩
  subst g4
  go_enter Try.func23, Try.ntmps23
  go_wp2_with fail
  go_loopw [5] (fun ii wr => ∃ (i : Nat), ii = .int .i64 (i : Int) ∧ i ≤ n2 ∧ Below w2.heap.size w2 wr ∧ Hid (lf.take i = lf'.take i)) (fun ii _ => n2 - (intOf ii).toNat)
  case atStart => exact ⟨0, rfl, Nat.zero_le _, Below.refl _ _, by show _ = _; simp⟩
  case round =>
    obtain ⟨i, rfl, hi, hB, hT⟩ := hrel
    have hcr1 := (hB12.kept (Kept.of_below hB (fun _ => False)) id).cell
    have hcr2 := (hB2.kept (Kept.of_below hB (fun _ => False)) id).cell
    by_cases hlt : i < n2
    · obtain ⟨b1, o1, x, rfl, hb1', hx, hc1⟩ := h2.at (k := i) (by have := HN2.out; omega)
      obtain ⟨b2, o2, y, rfl, hb2', hy, hc2⟩ := h5.at (k := i) (by have := HM2.out; omega)
      have hHX := hide hx
      have hHY := hide hy
      have e1 := fun j hj => (hB.cell (by show b1 < _; omega)).trans ((hb02.cell (by exact hb1')).trans (hc1 j hj))
      have e2 := fun j hj => (hB.cell (by show b2 < _; omega)).trans ((hb02.cell (by exact hb2')).trans (hc2 j hj))
      have e10 := e1 0 (by omega)
      have e11 := e1 1 (by omega)
      have e20 := e2 0 (by omega)
      have e21 := e2 1 (by omega)
      simp only [Nat.add_zero, encL] at e10 e11 e20 e21
      have hst := hide (hB.trans ((drew_below wr).mono hB.size))
      clear hx hy hc1 hc2 e1 e2
      by_cases hxy : x = y
      · subst hxy
        go_wp2_with fail
        refine Reg.region_plain [0, 1, 0, 7, 15, 0, 32, 0, 224, 480, 1023] (by kernel_rfl) (by repeat (first | exact Reg.NoQ.body (fun _ _ h => h) (fun _ h => h) | exact Reg.NoQ.body (fun _ _ h => Ending.noConfusion h.1) (fun _ h => Ending.noConfusion h.1) | refine Reg.NoQ.then ?_ | refine Reg.NoQ.inBlock ?_)) ?_
        go_wp2_with fail
        exact ⟨⟨i + 1, by simp, by omega, hst.out, take_snoc_eq hHX.out hHY.out hT.out⟩, by simp [intOf]; omega⟩
      · have hne : Hid ((⟨La, Sa, ac, lf, br⟩ : TA) ≠ ⟨La, Sa, ac', lf', br'⟩) := fun e => ne_of_at hHX.out hHY.out hxy (congrArg TA.leaves e)
        have hor : x.letter ≠ y.letter ∨ x.letter = y.letter ∧ x.to ≠ y.to := by
          rcases x with ⟨x1, x2⟩; rcases y with ⟨y1, y2⟩
          simp only [Leaf.mk.injEq] at hxy
          simp only
          by_cases e : x1 = y1
          · exact Or.inr ⟨e, fun e' => hxy ⟨e, e'⟩⟩
          · exact Or.inl e
        clear hxy
        rcases hor with e | ⟨e, e'⟩
        all_goals
          go_wp2_with fail
          refine Reg.region_plain [0, 1, 0, 7, 15, 0, 32, 0, 224, 480, 1023] (by kernel_rfl) (by repeat (first | exact Reg.NoQ.body (fun _ _ h => h) (fun _ h => h) | exact Reg.NoQ.body (fun _ _ h => Ending.noConfusion h.1) (fun _ h => Ending.noConfusion h.1) | refine Reg.NoQ.then ?_ | refine Reg.NoQ.inBlock ?_)) ?_
          go_wp2_with fail
          go_ret
          exact ⟨congrArg Value.bool (decide_eq_false hne.out).symm, hb02.trans (hst.out.mono (by omega))⟩
    · have hLe : Hid (lf = lf') := take_all_eq hT.out (by have := HN2.out; omega) (by have := HM2.out; omega)
      go_wp2_with fail
      obtain ⟨wa, hwa⟩ : ∃ wa : World, wa = wr := ⟨_, rfl⟩
      go_loopw [6] (fun ii wr' => ∃ (i : Nat), ii = .int .i64 (i : Int) ∧ i ≤ n3 ∧ Below w2.heap.size w2 wr' ∧ Hid (br.take i = br'.take i)) (fun ii _ => n3 - (intOf ii).toNat)
      case atStart => exact ⟨0, rfl, Nat.zero_le _, hB, by show _ = _; simp⟩
      case round =>
        obtain ⟨i', rfl, hi', hB', hT'⟩ := hrel
        have hcs1 := (hB12.kept (Kept.of_below hB' (fun _ => False)) id).cell
        have hcs2 := (hB2.kept (Kept.of_below hB' (fun _ => False)) id).cell
        clear hcr1 hcr2
        by_cases hlt' : i' < n3
        · obtain ⟨b1, o1, x, rfl, hb1', hx, hc1⟩ := h3.at (k := i') (by have := HN3.out; omega)
          obtain ⟨b2, o2, y, rfl, hb2', hy, hc2⟩ := h6.at (k := i') (by have := HM3.out; omega)
          have hHX := hide hx
          have hHY := hide hy
          have e1 := fun j hj => (hB'.cell (by show b1 < _; omega)).trans ((hb02.cell (by exact hb1')).trans (hc1 j hj))
          have e2 := fun j hj => (hB'.cell (by show b2 < _; omega)).trans ((hb02.cell (by exact hb2')).trans (hc2 j hj))
          have e10 := e1 0 (by omega)
          have e11 := e1 1 (by omega)
          have e12 := e1 2 (by omega)
          have e13 := e1 3 (by omega)
          have e20 := e2 0 (by omega)
          have e21 := e2 1 (by omega)
          have e22 := e2 2 (by omega)
          have e23 := e2 3 (by omega)
          simp only [Nat.add_zero, encBr] at e10 e11 e12 e13 e20 e21 e22 e23
          have hst := hide (hB'.trans ((drew_below wr).mono hB'.size))
          clear hx hy hc1 hc2 e1 e2
          by_cases hxy : x = y
          · subst hxy
            go_wp2_with fail
            refine Reg.region_plain [0, 1, 0, 7, 15, 0, 32, 0, 224, 480, 1023] (by kernel_rfl) (by repeat (first | exact Reg.NoQ.body (fun _ _ h => h) (fun _ h => h) | exact Reg.NoQ.body (fun _ _ h => Ending.noConfusion h.1) (fun _ h => Ending.noConfusion h.1) | refine Reg.NoQ.then ?_ | refine Reg.NoQ.inBlock ?_)) ?_
            go_wp2_with fail
            exact ⟨⟨i' + 1, by simp, by omega, hst.out, take_snoc_eq hHX.out hHY.out hT'.out⟩, by simp [intOf]; omega⟩
          · have hne : Hid ((⟨La, Sa, ac, lf, br⟩ : TA) ≠ ⟨La, Sa, ac', lf', br'⟩) := fun e => ne_of_at hHX.out hHY.out hxy (congrArg TA.branches e)
            have hor : x.letter ≠ y.letter ∨ x.letter = y.letter ∧ (x.first ≠ y.first ∨ x.first = y.first ∧ (x.second ≠ y.second ∨ x.second = y.second ∧ x.to ≠ y.to)) := by
              rcases x with ⟨x1, x2, x3, x4⟩; rcases y with ⟨y1, y2, y3, y4⟩
              simp only [Branch.mk.injEq] at hxy
              simp only
              by_cases e : x1 = y1
              · refine Or.inr ⟨e, ?_⟩
                by_cases e2 : x2 = y2
                · refine Or.inr ⟨e2, ?_⟩
                  by_cases e3 : x3 = y3
                  · exact Or.inr ⟨e3, fun e4 => hxy ⟨e, e2, e3, e4⟩⟩
                  · exact Or.inl e3
                · exact Or.inl e2
              · exact Or.inl e
            clear hxy
            rcases hor with e | ⟨e, e' | ⟨e', e'' | ⟨e'', e3⟩⟩⟩
            all_goals
              go_wp2_with fail
              refine Reg.region_plain [0, 1, 0, 7, 15, 0, 32, 0, 224, 480, 1023] (by kernel_rfl) (by repeat (first | exact Reg.NoQ.body (fun _ _ h => h) (fun _ h => h) | exact Reg.NoQ.body (fun _ _ h => Ending.noConfusion h.1) (fun _ h => Ending.noConfusion h.1) | refine Reg.NoQ.then ?_ | refine Reg.NoQ.inBlock ?_)) ?_
              go_wp2_with fail
              go_ret
              exact ⟨congrArg Value.bool (decide_eq_false hne.out).symm, hb02.trans (hst.out.mono (by omega))⟩
        · have hBe : Hid (br = br') := take_all_eq hT'.out (by have := HN3.out; omega) (by have := HM3.out; omega)
          have hsw := hB'.size
          have hS1 := hide (((h1.below hb02).mono (show w.heap.size ≤ w2.heap.size by omega)).below hB')
          have hS4 := hide (((h4.below hb02).mono (show w.heap.size ≤ w2.heap.size by omega)).below hB')
          go_wp2_with (go_at_call 50; refine Calls.ret (sameInts_any hS1.out hS4.out (by omega) (by omega)) ?_; rintro v w9 ⟨rfl, hb⟩; have hb9 := hide hb; clear hb)
          go_ret
          refine ⟨congrArg Value.bool (decide_eq_decide.2 ?_), (hb02.trans (hB'.mono (by omega))).trans (hb9.out.mono (by omega))⟩
          have hq2 := hLe.out
          have hq3 := hBe.out
          constructor
          · intro e
            rw [hq2, hq3, e]
          · intro e
            exact congrArg TA.accept e
end Go.Proofs.Ytnimlcbgeiajiaa

namespace Go.Proofs.Ytnimlcbgeiajiaa
open Go.RowKit

theorem small_branches {a : TA} (h : a.small = true) : a.branches.length ≤ 900000 := by
  simp only [TA.small, TA.big, Bool.and_eq_true, Bool.not_eq_true', Bool.or_eq_false_iff, decide_eq_false_iff_not] at h
  omega
end Go.Proofs.Ytnimlcbgeiajiaa
