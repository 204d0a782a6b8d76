/-
  The reference's Validate: the walk; what it answers is the function TA.valid of the automaton's data.
  CompareInts, SameInts and SameAutomaton at equal data, and small: the walks.
-/
import Derived.Test.YtnimlcbgeiajiaaTjP2
import Derived.Test.YtnimlcbgeiajiaaTjP4

namespace Go.Proofs.Ytnimlcbgeiajiaa
open Go.RowKit

def inC (n lo hi : Int) : Bool := decide (lo ≤ n) && decide (n ≤ hi)

theorem inR_inC (n lo hi : Int) : inR n lo hi = inC n lo (hi - 1) := by
  unfold inR inC; congr 1; exact decide_eq_decide.2 (by omega)

set_option maxHeartbeats 400000 in
theorem within_any (n lo hi : Int) (w : World) : Calls Try.prog 45 #[.int .i64 n, .int .i64 lo, .int .i64 hi] w fun e w' => e = .returned (.bool (inC n lo hi)) ∧ w = w' := by
  by_cases h : lo ≤ n
  all_goals
    go_enter Try.func45, Try.ntmps45
    go_wp2
    go_ret
    exact ⟨by simp [inC]; omega, rfl⟩

set_option maxHeartbeats 4000000 in
set_option maxRecDepth 100000 in
theorem refValidate_head (v : Value) (a : TA) (w : World) (h : IsTA w w.heap.size v a) (hL : 1 ≤ a.letters ∧ a.letters ≤ 8 ∧ 0 ≤ a.states ∧ a.states ≤ 64) :
    Calls Try.prog 19 #[v] w fun e w' =>
      e = .returned (.int .i64 (errno a.valid)) ∧ Below w.heap.size w w' := by
  obtain ⟨A1, c1, A2, c2, A3, c3, rfl, h1, h2, h3⟩ := h
  have HH : Hid (a.head = true) := by show a.head = true; simp [TA.head]; omega
  obtain ⟨L, S, acc, lv, br⟩ := a
  dsimp only at *
  have hn1 := h1.1
  have hn2 := h2.1
  have hn3 := h3.1
  have hcL : inC L 1 8 = true := by simp [inC]; omega
  have hcS : inC S 0 64 = true := by simp [inC]; omega
  have HcL := hide hcL
  have HcS := hide hcS
  clear hcL hcS
  go_enter Try.func19, Try.ntmps19
  go_wp2_with (go_at_call 45; refine (within_any _ _ _ _).mono ?_; rintro e w' ⟨rfl, rfl⟩; (first | rw [HcL.out] | rw [HcS.out]))
  obtain ⟨w1, hw1, hb1, hg1, hB1⟩ := box_facts w #[.int .i64 L, .int .i64 S, .slice A1 acc.length c1, .slice A2 lv.length c2, .slice A3 br.length c3] 26
  rw [hw1]
  clear hw1
  go_loopw [3] (fun i wr => ∃ k : Nat, k ≤ acc.length ∧ i = .int .i64 k ∧ (acc.take k).all (inR · 0 S) ∧ Below w1.heap.size w1 wr) (fun i _ => acc.length - (intOf i).toNat)
  case atStart => exact ⟨0, Nat.zero_le _, rfl, by simp, Below.refl _ _⟩
  case round =>
    obtain ⟨k, hk, rfl, hall, hbr⟩ := hrel
    obtain ⟨hg2, hB2⟩ := box_later hbr hg1 hB1
    by_cases hlt : k < acc.length
    · obtain ⟨b, off, x, rfl, hb, hx, hc⟩ := h1.at hlt
      have hc0 := (hbr.cell (by show b < _; omega)).trans ((hb1.cell (by exact hb)).trans (hc 0 (by omega)))
      simp only [Nat.mul_one, Nat.add_zero, encI] at hc0
      clear hc
      have HX := hide hx
      clear hx
      go_wp2_with fail
      refine Reg.region_ints' [0, 1, 0, 7, 15, 0, 32, 96, 255, 511] (by kernel_rfl) (by repeat (first | exact Reg.NoQ.body (fun _ _ h => Ending.noConfusion h.1) (fun _ h => Ending.noConfusion h.1) | refine Reg.NoQ.then ?_ | refine Reg.NoQ.inBlock ?_)) ?_
      intro Qf hQf
      go_wp2_with (go_at_call 45; refine (within_any _ _ _ _).mono ?_; rintro e w' ⟨rfl, rfl⟩)
      refine ⟨rfl, ?_⟩
      go_wp2
      · go_ret
        exact ⟨by rw [TA.valid]; dsimp only; rw [all_false HX.out (by rw [inR_inC]; simp_all)]; simp [errno], (hb1.trans (hbr.mono (by omega))).drew⟩
      · go_roundw
        case rel => exact ⟨k + 1, by omega, by go_num, all_take_succ HX.out hall (by rw [inR_inC]; simp_all), hbr.drew⟩
        case measure => simp [intOf]; omega
    · have HA := hide (all_done (by omega) hall)
      clear hall
      go_wp2_with fail
      obtain ⟨wa, rfl⟩ : ∃ wa : World, wa = wr := ⟨_, rfl⟩
      go_loopw [4] (fun i wr2 => ∃ k : Nat, k ≤ lv.length ∧ i = .int .i64 k ∧ (lv.take k).all (okLeaf L S) ∧ Below wa.heap.size wa wr2) (fun i _ => lv.length - (intOf i).toNat)
      case atStart => exact ⟨0, Nat.zero_le _, rfl, by simp, Below.refl _ _⟩
      case round =>
        obtain ⟨k, hk, rfl, hall, hbr2⟩ := hrel
        obtain ⟨hg3, hB3⟩ := box_later hbr2 hg2 hB2
        by_cases hlt : k < lv.length
        · obtain ⟨b, off, x, rfl, hb, hx, hc⟩ := h2.at hlt
          have hcc := fun j hj => (hbr2.cell (by show b < _; omega)).trans ((hbr.cell (by show b < _; omega)).trans ((hb1.cell (by exact hb)).trans (hc j hj)))
          have hc0 := hcc 0 (by omega)
          have hc1 := hcc 1 (by omega)
          simp only [Nat.add_zero, encL] at hc0 hc1
          clear hc hcc
          have HX := hide hx
          clear hx
          go_wp2_with fail
          refine Reg.region_ints' [0, 1, 0, 7, 15, 31, 0, 64, 192, 511, 1023, 2047, 4095, 8191, 4095, 32767, 65535, 131071, 4095, 266239, 790527, 2097151, 4194303, 8388607] (by kernel_rfl) (by repeat (first | exact Reg.NoQ.body (fun _ _ h => Ending.noConfusion h.1) (fun _ h => Ending.noConfusion h.1) | refine Reg.NoQ.then ?_ | refine Reg.NoQ.inBlock ?_)) ?_
          intro Qf hQf
          go_wp2_with (go_at_call 45; refine (within_any _ _ _ _).mono ?_; rintro e w' ⟨rfl, rfl⟩)
          all_goals refine ⟨rfl, ?_⟩
          all_goals go_wp2
          all_goals try rw [Bool.not_eq_true] at *
          · go_ret
            exact ⟨by rw [TA.valid]; dsimp only; rw [all_false HX.out (by rw [okLeaf, inR_inC, inR_inC]; simp_all)]; simp [errno], ((hb1.trans (hbr.mono (by omega))).trans (hbr2.mono (by omega))).drew⟩
          · go_roundw
            case rel => exact ⟨k + 1, by omega, by go_num, all_take_succ HX.out hall (by rw [okLeaf, inR_inC, inR_inC]; simp_all), hbr2.drew⟩
            case measure => simp [intOf]; omega
          · go_ret
            exact ⟨by rw [TA.valid]; dsimp only; rw [all_false HX.out (by rw [okLeaf, inR_inC, inR_inC]; simp_all)]; simp [errno], ((hb1.trans (hbr.mono (by omega))).trans (hbr2.mono (by omega))).drew⟩
        · have HA2 := hide (all_done (by omega) hall)
          clear hall
          go_wp2_with fail
          obtain ⟨wb, rfl⟩ : ∃ wb : World, wb = wr := ⟨_, rfl⟩
          go_loopw [5] (fun i wr2 => ∃ k : Nat, k ≤ br.length ∧ i = .int .i64 k ∧ (br.take k).all (okBranch L S) ∧ Below wb.heap.size wb wr2) (fun i _ => br.length - (intOf i).toNat)
          case atStart => exact ⟨0, Nat.zero_le _, rfl, by simp, Below.refl _ _⟩
          case round =>
            obtain ⟨k, hk, rfl, hall, hbr3⟩ := hrel
            obtain ⟨hg4, hB4⟩ := box_later hbr3 hg3 hB3
            by_cases hlt : k < br.length
            · obtain ⟨b, off, x, rfl, hb, hx, hc⟩ := h3.at hlt
              have hcc := fun j hj => (hbr3.cell (by show b < _; omega)).trans ((hbr2.cell (by show b < _; omega)).trans ((hbr.cell (by show b < _; omega)).trans ((hb1.cell (by exact hb)).trans (hc j hj))))
              have hc0 := hcc 0 (by omega)
              have hc1 := hcc 1 (by omega)
              have hc2 := hcc 2 (by omega)
              have hc3 := hcc 3 (by omega)
              simp only [Nat.add_zero, encBr] at hc0 hc1 hc2 hc3
              clear hc hcc
              have HX := hide hx
              clear hx
              go_wp2_with (go_at_call 45; refine (within_any _ _ _ _).mono ?_; rintro e w' ⟨rfl, rfl⟩)
              all_goals try rw [Bool.not_eq_true] at *
              · go_ret
                exact ⟨by rw [TA.valid]; dsimp only; rw [all_false HX.out (by rw [okBranch, inR_inC, inR_inC, inR_inC, inR_inC]; simp_all)]; simp [errno], (((hb1.trans (hbr.mono (by omega))).trans (hbr2.mono (by omega))).trans (hbr3.mono (by omega))).alloc (by omega) _⟩
              · go_roundw
                case rel => exact ⟨k + 1, by omega, by go_num, all_take_succ HX.out hall (by rw [okBranch, inR_inC, inR_inC, inR_inC, inR_inC]; simp_all), hbr3.alloc hbr3.size _⟩
                case measure => simp [intOf]; omega
              all_goals
                go_ret
                exact ⟨by rw [TA.valid]; dsimp only; rw [all_false HX.out (by rw [okBranch, inR_inC, inR_inC, inR_inC, inR_inC]; simp_all)]; simp [errno], (((hb1.trans (hbr.mono (by omega))).trans (hbr2.mono (by omega))).trans (hbr3.mono (by omega))).alloc (by omega) _⟩
            · have HA3 := hide (all_done (by omega) hall)
              clear hall
              go_wp2_with fail
              go_ret
              exact ⟨by rw [TA.valid, HH.out]; dsimp only; rw [HA.out, HA2.out, HA3.out]; rfl, ((hb1.trans (hbr.mono (by omega))).trans (hbr2.mono (by omega))).trans (hbr3.mono (by omega))⟩

set_option maxHeartbeats 1000000 in
set_option maxRecDepth 100000 in
theorem refValidate_any (v : Value) (a : TA) (w : World) (h : IsTA w w.heap.size v a) :
    Calls Try.prog 19 #[v] w fun e w' => e = .returned (.int .i64 (errno a.valid)) ∧ Below w.heap.size w w' := by
  by_cases hh : a.head = true
  · refine refValidate_head v a w h ?_
    simp [TA.head] at hh
    omega
  · obtain ⟨A1, c1, A2, c2, A3, c3, rfl, h1, h2, h3⟩ := h
    have hE : errno a.valid = 1 := by simp [TA.valid, hh, errno]
    rw [hE]
    have hcase : inC a.letters 1 8 = false ∨ (inC a.letters 1 8 = true ∧ inC a.states 0 64 = false) := by
      by_cases h1 : inC a.letters 1 8 = true
      · refine .inr ⟨h1, ?_⟩
        cases h2 : inC a.states 0 64
        · rfl
        · simp [inC] at h1 h2
          simp [TA.head] at hh
          omega
      · exact .inl (by simpa using h1)
    clear hh hE
    generalize a.letters = L at *
    generalize a.states = S at *
    rcases hcase with hc | ⟨hc, hc'⟩
    · have HC := hide hc
      clear hc
      go_enter Try.func19, Try.ntmps19
      go_wp2_with (go_at_call 45; refine (within_any _ _ _ _).mono ?_; rintro e w' ⟨rfl, rfl⟩; rw [HC.out])
      go_ret
      exact ⟨rfl, (Below.refl _ _).alloc (Nat.le_refl _) _⟩
    · have HC := hide hc
      have HC' := hide hc'
      clear hc hc'
      go_enter Try.func19, Try.ntmps19
      go_wp2_with (go_at_call 45; refine (within_any _ _ _ _).mono ?_; rintro e w' ⟨rfl, rfl⟩; (first | rw [HC.out] | rw [HC'.out]))
      go_ret
      exact ⟨rfl, (Below.refl _ _).alloc (Nat.le_refl _) _⟩
end Go.Proofs.Ytnimlcbgeiajiaa

namespace Go.Proofs.Ytnimlcbgeiajiaa
open Go.RowKit

set_option maxHeartbeats 2000000 in
set_option maxRecDepth 100000 in
theorem compareInts_eq {w : World} {B1 B2 c1 c2 : Nat} {A1 A2 : Option Addr} {xs : List Int} (h1 : Sl w B1 1 encI A1 xs) (h2 : Sl w B2 1 encI A2 xs) (hB1 : B1 ≤ w.heap.size) (hB2 : B2 ≤ w.heap.size) :
    Calls Try.prog 77 #[.slice A1 xs.length c1, .slice A2 xs.length c2] w (Ret fun r w' => r = .int .i64 0 ∧ Below w.heap.size w w') := by
  have hn := h1.1
  go_enter Try.func77, Try.ntmps77
  go_wp2_with fail
  go_loopw [5] (fun ii wr => ∃ (i : Nat), ii = .int .i64 (i : Int) ∧ i ≤ xs.length ∧ Below w.heap.size w wr) (fun ii _ => xs.length - (intOf ii).toNat)
  case atStart => exact ⟨0, rfl, Nat.zero_le _, Below.refl _ _⟩
  case round =>
    obtain ⟨i, rfl, hi, hB⟩ := hrel
    by_cases hlt : i < xs.length
    · obtain ⟨b1, o1, x, rfl, hb1, hx, hc1⟩ := h1.at hlt
      obtain ⟨b2, o2, y, rfl, hb2, hy, hc2⟩ := h2.at hlt
      have hxy : y = x := by rw [hx] at hy; exact (Option.some.inj hy).symm
      subst hxy
      have e1 := (hB.cell (by show b1 < _; omega)).trans (hc1 0 (by omega))
      have e2 := (hB.cell (by show b2 < _; omega)).trans (hc2 0 (by omega))
      simp only [Nat.mul_one, Nat.add_zero, encI] at e1 e2
      have hst := hide ((hB.trans ((drew_below wr).mono hB.size)).trans ((drew_below wr.drew).mono hB.size))
      clear hx hy hc1 hc2
      go_wp2_with fail
      refine Reg.region_plain [0, 0, 3, 7, 0, 0, 48, 112, 255] (by kernel_rfl) (by repeat (first | exact Reg.NoQ.body (fun _ _ h => h) (fun _ h => h) | exact Reg.NoQ.body (fun _ _ h => Ending.noConfusion h.1) (fun _ h => Ending.noConfusion h.1) | refine Reg.NoQ.then ?_ | refine Reg.NoQ.inBlock ?_)) ?_
      go_wp2_with fail
      refine Reg.region_plain [0, 0, 3, 7, 0, 0, 48, 112, 255] (by kernel_rfl) (by repeat (first | exact Reg.NoQ.body (fun _ _ h => h) (fun _ h => h) | exact Reg.NoQ.body (fun _ _ h => Ending.noConfusion h.1) (fun _ h => Ending.noConfusion h.1) | refine Reg.NoQ.then ?_ | refine Reg.NoQ.inBlock ?_)) ?_
      go_wp2_with fail
      exact ⟨⟨i + 1, by simp, by omega, hst.out⟩, by simp [intOf]; omega⟩
    · go_wp2_with fail
      go_ret
      exact ⟨rfl, hB⟩

set_option maxHeartbeats 1000000 in
theorem sameInts_eq {w : World} {B1 B2 c1 c2 : Nat} {A1 A2 : Option Addr} {xs : List Int} (h1 : Sl w B1 1 encI A1 xs) (h2 : Sl w B2 1 encI A2 xs) (hB1 : B1 ≤ w.heap.size) (hB2 : B2 ≤ w.heap.size) :
    Calls Try.prog 50 #[.slice A1 xs.length c1, .slice A2 xs.length c2] w (Ret fun r w' => r = .bool true ∧ Below w.heap.size w w') := by
  go_enter Try.func50, Try.ntmps50
  go_wp2_with (go_at_call 77; refine Calls.ret (compareInts_eq h1 h2 hB1 hB2) ?_; rintro v w2 ⟨rfl, hb⟩; have hb2 := hide hb; clear hb)
  go_ret
  exact ⟨rfl, hb2.out⟩

set_option maxHeartbeats 4000000 in
set_option maxRecDepth 100000 in
theorem sameAutomaton_eq {v1 v2 : Value} {a : TA} {w : World} (h : IsTA w w.heap.size v1 a) (h' : IsTA w w.heap.size v2 a) :
    Calls Try.prog 23 #[v1, v2] w (Ret fun r w' => r = .bool true ∧ Below w.heap.size w w') := by
  obtain ⟨A1, c1, A2, c2, A3, c3, rfl, h1, h2, h3⟩ := h
  obtain ⟨A4, c4, A5, c5, A6, c6, rfl, h4, h5, h6⟩ := h'
  obtain ⟨w1, hw1, hb1, hB1, hk1⟩ := box_blk w #[.int .i64 a.letters, .int .i64 a.states, .slice A1 a.accept.length c1, .slice A2 a.leaves.length c2, .slice A3 a.branches.length c3] 26
  obtain ⟨w2, hw2, hb2, hB2, hk2⟩ := box_blk w1 #[.int .i64 a.letters, .int .i64 a.states, .slice A4 a.accept.length c4, .slice A5 a.leaves.length c5, .slice A6 a.branches.length c6] 26
  have hsz1 := hb1.size
  have hsz2 := hb2.size
  have hb02 := hb1.trans (hb2.mono hsz1)
  have hB12 := hB1.kept hk2 id
  have hcb1 := hB12.cell
  have hcb2 := hB2.cell
  have hn1 := h1.1
  have hn2 := h2.1
  have hn3 := h3.1
  go_enter Try.func23, Try.ntmps23
  go_wp2_with fail
  go_loopw [5] (fun ii wr => ∃ (i : Nat), ii = .int .i64 (i : Int) ∧ i ≤ a.leaves.length ∧ Below w2.heap.size w2 wr) (fun ii _ => a.leaves.length - (intOf ii).toNat)
  case atStart => exact ⟨0, rfl, Nat.zero_le _, Below.refl _ _⟩
  case round =>
    obtain ⟨i, rfl, hi, hB⟩ := hrel
    have hcr1 := (hB12.kept (Kept.of_below hB (fun _ => False)) id).cell
    have hcr2 := (hB2.kept (Kept.of_below hB (fun _ => False)) id).cell
    by_cases hlt : i < a.leaves.length
    · obtain ⟨b1, o1, x, rfl, hb1', hx, hc1⟩ := h2.at hlt
      obtain ⟨b2, o2, y, rfl, hb2', hy, hc2⟩ := h5.at hlt
      have hxy : y = x := by rw [hx] at hy; exact (Option.some.inj hy).symm
      subst hxy
      have e1 := fun j hj => (hB.cell (by show b1 < _; omega)).trans ((hb02.cell (by exact hb1')).trans (hc1 j hj))
      have e2 := fun j hj => (hB.cell (by show b2 < _; omega)).trans ((hb02.cell (by exact hb2')).trans (hc2 j hj))
      have e10 := e1 0 (by omega)
      have e11 := e1 1 (by omega)
      have e20 := e2 0 (by omega)
      have e21 := e2 1 (by omega)
      simp only [Nat.add_zero, encL] at e10 e11 e20 e21
      have hst := hide (hB.trans ((drew_below wr).mono hB.size))
      clear hx hy hc1 hc2 e1 e2
      go_wp2_with fail
      refine Reg.region_plain [0, 1, 0, 7, 15, 0, 32, 0, 224, 480, 1023] (by kernel_rfl) (by repeat (first | exact Reg.NoQ.body (fun _ _ h => h) (fun _ h => h) | exact Reg.NoQ.body (fun _ _ h => Ending.noConfusion h.1) (fun _ h => Ending.noConfusion h.1) | refine Reg.NoQ.then ?_ | refine Reg.NoQ.inBlock ?_)) ?_
      go_wp2_with fail
      exact ⟨⟨i + 1, by simp, by omega, hst.out⟩, by simp [intOf]; omega⟩
    · go_wp2_with fail
      obtain ⟨wa, rfl⟩ : ∃ wa : World, wa = wr := ⟨_, rfl⟩
      have hBa := hide hB
      go_loopw [6] (fun ii wr => ∃ (i : Nat), ii = .int .i64 (i : Int) ∧ i ≤ a.branches.length ∧ Below w2.heap.size w2 wr) (fun ii _ => a.branches.length - (intOf ii).toNat)
      case atStart => exact ⟨0, rfl, Nat.zero_le _, hB⟩
      case round =>
        obtain ⟨i', rfl, hi', hB'⟩ := hrel
        have hcs1 := (hB12.kept (Kept.of_below hB' (fun _ => False)) id).cell
        have hcs2 := (hB2.kept (Kept.of_below hB' (fun _ => False)) id).cell
        by_cases hlt' : i' < a.branches.length
        · obtain ⟨b1, o1, x, rfl, hb1', hx, hc1⟩ := h3.at hlt'
          obtain ⟨b2, o2, y, rfl, hb2', hy, hc2⟩ := h6.at hlt'
          have hxy : y = x := by rw [hx] at hy; exact (Option.some.inj hy).symm
          subst hxy
          have e1 := fun j hj => (hB'.cell (by show b1 < _; omega)).trans ((hb02.cell (by exact hb1')).trans (hc1 j hj))
          have e2 := fun j hj => (hB'.cell (by show b2 < _; omega)).trans ((hb02.cell (by exact hb2')).trans (hc2 j hj))
          have e10 := e1 0 (by omega)
          have e11 := e1 1 (by omega)
          have e12 := e1 2 (by omega)
          have e13 := e1 3 (by omega)
          have e20 := e2 0 (by omega)
          have e21 := e2 1 (by omega)
          have e22 := e2 2 (by omega)
          have e23 := e2 3 (by omega)
          simp only [Nat.add_zero, encBr] at e10 e11 e12 e13 e20 e21 e22 e23
          have hst := hide (hB'.trans ((drew_below wr).mono hB'.size))
          clear hx hy hc1 hc2 e1 e2 hcr1 hcr2
          go_wp2_with fail
          refine Reg.region_plain [0, 1, 0, 7, 15, 0, 32, 0, 224, 480, 1023] (by kernel_rfl) (by repeat (first | exact Reg.NoQ.body (fun _ _ h => h) (fun _ h => h) | exact Reg.NoQ.body (fun _ _ h => Ending.noConfusion h.1) (fun _ h => Ending.noConfusion h.1) | refine Reg.NoQ.then ?_ | refine Reg.NoQ.inBlock ?_)) ?_
          go_wp2_with fail
          exact ⟨⟨i' + 1, by simp, by omega, hst.out⟩, by simp [intOf]; omega⟩
        · have hsw := hB'.size
          have hS1 := hide (((h1.below hb02).mono (show w.heap.size ≤ w2.heap.size by omega)).below hB')
          have hS4 := hide (((h4.below hb02).mono (show w.heap.size ≤ w2.heap.size by omega)).below hB')
          clear hcr1 hcr2
          go_wp2_with (go_at_call 50; refine Calls.ret (sameInts_eq hS1.out hS4.out (by omega) (by omega)) ?_; rintro v w9 ⟨rfl, hb⟩; have hb9 := hide hb; clear hb)
          go_ret
          exact ⟨rfl, (hb02.trans (hB'.mono (by omega))).trans (hb9.out.mono (by omega))⟩

def TA.small (a : TA) : Bool := !a.big && (decide (a.states ≤ 5) && decide (a.letters ≤ 3) || !a.valid)
set_option maxHeartbeats 4000000 in
set_option maxRecDepth 100000 in
theorem small_any {v : Value} {a : TA} {w : World} (h : IsTA w w.heap.size v a) :
    Calls Try.prog 24 #[v] w (Ret fun r w' => r = .bool a.small ∧ Below w.heap.size w w') := by
  obtain ⟨A1, c1, A2, c2, A3, c3, rfl, h1, h2, h3⟩ := h
  obtain ⟨w1, hw1, hb1, hB1, hk1⟩ := box_blk w #[.int .i64 a.letters, .int .i64 a.states, .slice A1 a.accept.length c1, .slice A2 a.leaves.length c2, .slice A3 a.branches.length c3] 26
  have hsz := hb1.size
  have hT : IsTA w1 w1.heap.size (.agg #[.int .i64 a.letters, .int .i64 a.states, .slice A1 a.accept.length c1, .slice A2 a.leaves.length c2, .slice A3 a.branches.length c3]) a :=
    ⟨A1, c1, A2, c2, A3, c3, rfl, (h1.below hb1).mono hsz, (h2.below hb1).mono hsz, (h3.below hb1).mono hsz⟩
  have hHT := hide hT
  have hcb := hB1.cell
  clear hT h1 h2 h3
  cases hbig : a.big
  · have hBG := hide hbig
    clear hbig
    by_cases hs5 : a.states ≤ 5 ∧ a.letters ≤ 3
    · have hfin : Hid (a.small = true) := by show _ = _; simp [TA.small, hBG.out, hs5.1, hs5.2]
      obtain ⟨hs5, hs3⟩ := hs5
      go_enter Try.func24, Try.ntmps24
      go_wp2_with (go_at_call 16; refine (Big_any _ _ _ hHT.out).mono ?_; rintro e w2 ⟨rfl, hb⟩; rw [hBG.out]; have hb2 := hide hb; have hcb2 := (hB1.kept (Kept.of_below hb (fun _ => False)) id).cell; clear hb)
      go_ret
      exact ⟨by rw [hfin.out]; rfl, hb1.trans (hb2.out.mono hsz)⟩
    · have hfin : Hid (a.small = !a.valid) := by
        show _ = _
        have : (decide (a.states ≤ 5) && decide (a.letters ≤ 3)) = false := by simp; omega
        simp only [TA.small, hBG.out, this]
        rfl
      have hHS := hide hs5
      by_cases h5 : a.states ≤ 5
      · have h3 : ¬ a.letters ≤ 3 := fun h => hHS.out ⟨h5, h⟩
        clear hs5
        cases hv : a.valid
        all_goals
          have hV := hide hv
          clear hv
          go_enter Try.func24, Try.ntmps24
          go_wp2_with (first | (go_at_call 16; refine (Big_any _ _ _ hHT.out).mono ?_; rintro e w2 ⟨rfl, hb⟩; rw [hBG.out]; have hb2 := hide hb; have hsz2 := hb.size; have hT2 := hide (hHT.out.keep (fun _ hp => hb.cell hp) hsz2); have hcb2 := (hB1.kept (Kept.of_below hb (fun _ => False)) id).cell; clear hb) | (go_at_call 19; refine (refValidate_any _ _ _ hT2.out).mono ?_; rintro e w3 ⟨rfl, hb⟩; rw [hV.out]; simp only [errno]; have hb3 := hide hb; clear hb))
          go_ret
          exact ⟨by rw [hfin.out, hV.out]; first | rfl | (simp; done) | (simp; omega), (hb1.trans (hb2.out.mono hsz)).trans (hb3.out.mono (by omega))⟩
      · clear hs5
        cases hv : a.valid
        all_goals
          have hV := hide hv
          clear hv
          go_enter Try.func24, Try.ntmps24
          go_wp2_with (first | (go_at_call 16; refine (Big_any _ _ _ hHT.out).mono ?_; rintro e w2 ⟨rfl, hb⟩; rw [hBG.out]; have hb2 := hide hb; have hsz2 := hb.size; have hT2 := hide (hHT.out.keep (fun _ hp => hb.cell hp) hsz2); have hcb2 := (hB1.kept (Kept.of_below hb (fun _ => False)) id).cell; clear hb) | (go_at_call 19; refine (refValidate_any _ _ _ hT2.out).mono ?_; rintro e w3 ⟨rfl, hb⟩; rw [hV.out]; simp only [errno]; have hb3 := hide hb; clear hb))
          go_ret
          exact ⟨by rw [hfin.out, hV.out]; first | rfl | (simp; done) | (simp; omega), (hb1.trans (hb2.out.mono hsz)).trans (hb3.out.mono (by omega))⟩
  · have hBG := hide hbig
    clear hbig
    have hfin : Hid (a.small = false) := by show _ = _; simp [TA.small, hBG.out]
    go_enter Try.func24, Try.ntmps24
    go_wp2_with (go_at_call 16; refine (Big_any _ _ _ hHT.out).mono ?_; rintro e w2 ⟨rfl, hb⟩; rw [hBG.out]; have hb2 := hide hb; clear hb)
    go_ret
    exact ⟨by rw [hfin.out]; rfl, hb1.trans (hb2.out.mono hsz)⟩
end Go.Proofs.Ytnimlcbgeiajiaa
