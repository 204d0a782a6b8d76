/-
  Part XG of a proof.
-/
import Derived.Test.YtpmceapjnnkhjaaGreatDoorPA
import Derived.Test.YtpmceapjnnkhjaaGreatDoorPR
import Derived.Test.YtpmceapjnnkhjaaGreatDoorPB
set_option maxHeartbeats 16000000
set_option maxRecDepth 100000
set_option linter.unusedVariables false
set_option linter.unusedSimpArgs false
namespace Go.Proofs.YtpmceapjnnkhjaaGreatDoor
open Go.RowKit
set_option maxHeartbeats 16000000
set_option maxRecDepth 100000
theorem shapeR_any (w : World) (L S : Int) (v2 v3 v4 : Value) : Calls Tryz.prog 146 #[.agg #[.int .i64 L, .int .i64 S, v2, v3, v4]] w (Ret fun r w' => r = .tuple #[.int .i64 L, .int .i64 S] ∧ Below w.heap.size w w') := by
 obtain ⟨w1, hw1, hb1, hB1, hk1⟩ := box_blk w #[.int .i64 L, .int .i64 S, v2, v3, v4] 47
 have hc1 := hB1.cell
 go_enter Tryz.func146, Tryz.ntmps146
 go_wp2_with fail
 refine Reg.cP [0, 1, 0, 4, 3, 31] ?_
 go_wp2_with fail
 exact bodyPost_ret (v := .tuple #[.int .i64 L, .int .i64 S]) (by simp [results, Tryz.results146, go_sem]) rfl ⟨rfl, (hb1.trans ((drewB w1).mono hb1.size))⟩
theorem TR.ok_eq (a : TR) : a.ok = (a.head && a.start.all (inN a.states) && a.accept.all (inN a.states) && a.moves.all a.moveB) := rfl
theorem denote2g (n x y : Int) (c : Nat) (w : World) {g : Nat} (hg : g = w.heap.size) : Calls Tryz.prog 75 #[.int .i64 n, .slice (some ⟨g, 0, none⟩) 2 c] (w.alloc (.cells #[.int .i64 x, .int .i64 y] 3)) fun e w' => e = .returned (.bool (inN n x && inN n y)) ∧ w.alloc (.cells #[.int .i64 x, .int .i64 y] 3) = w' := by
 subst hg
 exact denote2 n x y c w
theorem validateR_bad {w : World} {a : TR} {A1 A2 A3 : Option Addr} {c1 c2 c3 : Nat} (h3 : Sl w w.heap.size 4 encM A3 a.moves) (hb : a.head = false) :
  Calls Tryz.prog 47 #[.iface 47 (.agg #[.int .i64 a.letters, .int .i64 a.states, .slice A1 a.start.length c1, .slice A2 a.accept.length c2, .slice A3 a.moves.length c3])] w (Ret fun r w' => r = .int .i64 (errno a.ok) ∧ Below w.heap.size w w') := by
 have hok : Hid (a.ok = false) := by show _ = _; rw [TR.ok_eq, hb]; rfl
 obtain ⟨L, S, st, ac, ed⟩ := a
 dsimp only at *
 generalize TR.ok ⟨L, S, st, ac, ed⟩ = OK at *
 have hn3 := h3.1
 have hcs : L < 1 ∨ (1 ≤ L ∧ 8 < L) ∨ (1 ≤ L ∧ L ≤ 8 ∧ S < 0) ∨ (1 ≤ L ∧ L ≤ 8 ∧ 0 ≤ S ∧ 400 < S) := by simp [TR.head] at hb; omega
 clear hb
 rcases hcs with d1 | ⟨d1, d2⟩ | ⟨d1, d2, d3⟩ | ⟨d1, d2, d3, d4⟩
 all_goals
  go_enter Tryz.func47, Tryz.ntmps47
  go_wp2_with (go_at_call 146; refine Calls.ret (shapeR_any _ _ _ _ _ _) ?_; rintro v w0 ⟨rfl, hb0⟩; obtain ⟨w1, hw1, hb1, hB1, hk1⟩ := box_blk w0 #[.int .i64 L, .int .i64 S, .slice A1 st.length c1, .slice A2 ac.length c2, .slice A3 ed.length c3] 47; have hc1 := hB1.cell; have hs1 := hide (hb0.trans (hb1.mono hb0.size)); clear hb1 hB1 hk1)
  go_loopw [5, 92] (fun bb ii wr => ∃ (k : Nat), ii = .int .i64 (k : Int) ∧ bb = .bool false ∧ k ≤ ed.length ∧ Hid (Below w.heap.size w wr) ∧ Below w1.heap.size w1 wr) (fun _ ii _ => ed.length - (intOf ii).toNat)
  case atStart => exact ⟨0, rfl, rfl, Nat.zero_le _, hs1, Below.refl _ _⟩
  case round =>
   obtain ⟨k, rfl, rfl, hk, hB, hBB⟩ := hrel
   by_cases hlt : k < ed.length
   ·obtain ⟨b, off, x, rfl, hbk, hx, hc⟩ := h3.at hlt
    have hcc := fun j hj => (hB.out.cell (by exact hbk)).trans (hc j hj)
    have e0 := hcc 0 (by omega)
    have e1 := hcc 1 (by omega)
    have e2 := hcc 2 (by omega)
    have e3 := hcc 3 (by omega)
    simp only [Nat.add_zero, encM] at e0 e1 e2 e3
    obtain ⟨x0, x1, x2, x3⟩ := x
    dsimp only at *
    obtain ⟨w2, hw2, hb2, hB2, hk2⟩ := box_blk wr #[.int .i64 x0, .int .i64 x1, .int .i64 x2, .int .i64 x3] 95
    have hf := hide (hB.out.trans (hb2.mono hB.out.size))
    have hf2 := hide (hBB.trans (hb2.mono hBB.size))
    clear hx hc hcc hb2 hB2 hk2
    go_wp2_with fail
    exact ⟨⟨k + 1, by go_num, rfl, by omega, hf, hf2.out⟩, by simp [intOf]; omega⟩
   ·go_wp2_with fail
    go_ret
    exact ⟨by rw [hok.out]; rfl, hB.out⟩
theorem validateR_good {w : World} {a : TR} {A1 A2 A3 : Option Addr} {c1 c2 c3 : Nat} (h1 : Sl w w.heap.size 1 encI A1 a.start) (h2 : Sl w w.heap.size 1 encI A2 a.accept) (h3 : Sl w w.heap.size 4 encM A3 a.moves) (hb : a.head = true) :
  Calls Tryz.prog 47 #[.iface 47 (.agg #[.int .i64 a.letters, .int .i64 a.states, .slice A1 a.start.length c1, .slice A2 a.accept.length c2, .slice A3 a.moves.length c3])] w (Ret fun r w' => r = .int .i64 (errno a.ok) ∧ Below w.heap.size w w') := by
 have hok := hide (TR.ok_eq a)
 rw [hb] at hok
 obtain ⟨L, S, st, ac, ed⟩ := a
 dsimp only at *
 have hn3 := h3.1
 simp only [TR.head, Bool.and_eq_true, decide_eq_true_eq] at hb
 obtain ⟨⟨⟨d1, d2⟩, d3⟩, d4⟩ := hb
 obtain ⟨p, hp⟩ : ∃ p : Mv → Bool, p = TR.moveB ⟨L, S, st, ac, ed⟩ := ⟨_, rfl⟩
 have hpe : ∀ e : Mv, p e = (inN S e.frm && inN S e.to && (inN L e.inn && inN L e.out)) := fun e => by rw [hp]; rfl
 have hok2 : Hid (TR.ok ⟨L, S, st, ac, ed⟩ = (st.all (inN S) && ac.all (inN S) && ed.all p)) := by show _ = _; rw [hok.out, hp]; simp
 have hpH := hide hpe
 clear hok hp hpe
 generalize TR.ok ⟨L, S, st, ac, ed⟩ = OK at *
 obtain ⟨s1, hs1⟩ : ∃ b, Hid (st.all (inN S) = b) := ⟨_, rfl⟩
 obtain ⟨s2, hs2⟩ : ∃ b, Hid (ac.all (inN S) = b) := ⟨_, rfl⟩
 rw [hs1.out, hs2.out] at hok2
 cases s1 <;> cases s2
 case true.true =>
  go_enter Tryz.func47, Tryz.ntmps47
  go_wp2_with (first
   | (go_at_call 146; refine Calls.ret (shapeR_any _ _ _ _ _ _) ?_; rintro v w0 ⟨rfl, hb0⟩; obtain ⟨w1, hw1, hb1, hB1, hk1⟩ := box_blk w0 #[.int .i64 L, .int .i64 S, .slice A1 st.length c1, .slice A2 ac.length c2, .slice A3 ed.length c3] 47; have hc1 := hB1.cell; have hsb := hide (hb0.trans (hb1.mono hb0.size)); clear hb1 hB1 hk1)
   | (go_at_call 75; refine (denote_any _ (by first | exact h1.below hsb.out | exact h2.below hsb.out)).mono ?_; rintro e w' ⟨rfl, rfl⟩; first | rw [hs1.out] | rw [hs2.out]))
  go_loopw [5, 92] (fun bb ii wr => ∃ (k : Nat) (b : Bool), ii = .int .i64 (k : Int) ∧ bb = .bool b ∧ k ≤ ed.length ∧ Hid ((ed.take k).all p = b) ∧ Hid (Below w.heap.size w wr) ∧ Below w1.heap.size w1 wr) (fun _ ii _ => ed.length - (intOf ii).toNat)
  case atStart => exact ⟨0, true, rfl, rfl, Nat.zero_le _, rfl, hsb, Below.refl _ _⟩
  case round =>
   obtain ⟨k, b, rfl, rfl, hk, hE, hB, hBB⟩ := hrel
   by_cases hlt : k < ed.length
   ·obtain ⟨bl, off, x, rfl, hbk, hx, hc⟩ := h3.at hlt
    have hcc := fun j hj => (hB.out.cell (by exact hbk)).trans (hc j hj)
    have e0 := hcc 0 (by omega)
    have e1 := hcc 1 (by omega)
    have e2 := hcc 2 (by omega)
    have e3 := hcc 3 (by omega)
    simp only [Nat.add_zero, encM] at e0 e1 e2 e3
    have hpx := hide (hpH.out x)
    have hnx : Hid ((ed.take (k + 1)).all p = (b && p x)) := by show _ = _; rw [take_snoc hx, List.all_append, hE.out]; simp
    obtain ⟨x0, x1, x2, x3⟩ := x
    dsimp only at *
    obtain ⟨w2, hw2, hb2, hB2, hk2⟩ := box_blk wr #[.int .i64 x0, .int .i64 x1, .int .i64 x2, .int .i64 x3] 95
    have hc2 := hB2.cell
    have hc3 : ∀ o i, (w2.alloc o).cell? ⟨wr.heap.size, i, none⟩ = #[.int .i64 x0, .int .i64 x1, .int .i64 x2, .int .i64 x3][i]? := fun o i => (World.cell?_alloc_lt w2 o _ hB2.lt).trans (hc2 i)
    have hs2' := hide hb2.size
    have hf := hide (hB.out.trans (hb2.mono hB.out.size))
    have hf2 := hide (hBB.trans (hb2.mono hBB.size))
    clear hx hc hcc hb2 hB2 hk2
    cases b
    ·go_wp2_with fail
     exact ⟨⟨k + 1, false, by go_num, rfl, by omega, by show _ = _; rw [hnx.out]; rfl, hf, hf2.out⟩, by simp [intOf]; omega⟩
    ·obtain ⟨r1, hr1⟩ : ∃ r, Hid ((inN S x0 && inN S x3) = r) := ⟨_, rfl⟩
     obtain ⟨r2, hr2⟩ : ∃ r, Hid ((inN L x1 && inN L x2) = r) := ⟨_, rfl⟩
     have hpr : Hid (p ⟨x0, x1, x2, x3⟩ = (r1 && r2)) := by show _ = _; rw [hpx.out, hr1.out, hr2.out]
     cases r1
     ·go_wp2_with (go_at_call 75; refine (denote2 _ _ _ _ _).mono ?_; rintro e w' ⟨rfl, rfl⟩; rw [hr1.out])
      exact ⟨⟨k + 1, false, by go_num, rfl, by omega, by show _ = _; rw [hnx.out, hpr.out]; rfl, hide (hf.out.alloc hf.out.size _), hf2.out.alloc hf2.out.size _⟩, by simp [intOf]; omega⟩
     ·go_wp2_with fail
      refine (denote2 _ _ _ _ _).mono ?_
      rintro e w' ⟨rfl, rfl⟩
      rw [hr1.out]
      go_wp2_with fail
      refine (denote2g L x1 x2 _ _ (by simp)).mono ?_
      rintro e w' ⟨rfl, rfl⟩
      rw [hr2.out]
      go_wp2_with fail
      exact ⟨⟨k + 1, r2, by go_num, rfl, by omega, by show _ = _; rw [hnx.out, hpr.out]; rfl, hide ((hf.out.alloc hf.out.size _).alloc (by have := hf.out.size; simp; omega) _), (hf2.out.alloc hf2.out.size _).alloc (by have := hf2.out.size; simp; omega) _⟩, by simp [intOf]; omega⟩
   ·have hA : Hid (ed.all p = b) := by show _ = _; rw [← hE.out, List.take_of_length_le (by omega)]
    cases b
    all_goals
     go_wp2_with fail
     go_ret
     exact ⟨by rw [hok2.out, hA.out]; rfl, hB.out⟩
 all_goals
  go_enter Tryz.func47, Tryz.ntmps47
  go_wp2_with (first
   | (go_at_call 146; refine Calls.ret (shapeR_any _ _ _ _ _ _) ?_; rintro v w0 ⟨rfl, hb0⟩; obtain ⟨w1, hw1, hb1, hB1, hk1⟩ := box_blk w0 #[.int .i64 L, .int .i64 S, .slice A1 st.length c1, .slice A2 ac.length c2, .slice A3 ed.length c3] 47; have hc1 := hB1.cell; have hsb := hide (hb0.trans (hb1.mono hb0.size)); clear hb1 hB1 hk1)
   | (go_at_call 75; refine (denote_any _ (by first | exact h1.below hsb.out | exact h2.below hsb.out)).mono ?_; rintro e w' ⟨rfl, rfl⟩; first | rw [hs1.out] | rw [hs2.out]))
  go_loopw [5, 92] (fun bb ii wr => ∃ (k : Nat), ii = .int .i64 (k : Int) ∧ bb = .bool false ∧ k ≤ ed.length ∧ Hid (Below w.heap.size w wr) ∧ Below w1.heap.size w1 wr) (fun _ ii _ => ed.length - (intOf ii).toNat)
  case atStart => exact ⟨0, rfl, rfl, Nat.zero_le _, hsb, Below.refl _ _⟩
  case round =>
   obtain ⟨k, rfl, rfl, hk, hB, hBB⟩ := hrel
   by_cases hlt : k < ed.length
   ·obtain ⟨b, off, x, rfl, hbk, hx, hc⟩ := h3.at hlt
    have hcc := fun j hj => (hB.out.cell (by exact hbk)).trans (hc j hj)
    have e0 := hcc 0 (by omega)
    have e1 := hcc 1 (by omega)
    have e2 := hcc 2 (by omega)
    have e3 := hcc 3 (by omega)
    simp only [Nat.add_zero, encM] at e0 e1 e2 e3
    obtain ⟨x0, x1, x2, x3⟩ := x
    dsimp only at *
    obtain ⟨w2, hw2, hb2, hB2, hk2⟩ := box_blk wr #[.int .i64 x0, .int .i64 x1, .int .i64 x2, .int .i64 x3] 95
    have hf := hide (hB.out.trans (hb2.mono hB.out.size))
    have hf2 := hide (hBB.trans (hb2.mono hBB.size))
    clear hx hc hcc hb2 hB2 hk2
    go_wp2_with fail
    exact ⟨⟨k + 1, by go_num, rfl, by omega, hf, hf2.out⟩, by simp [intOf]; omega⟩
   ·go_wp2_with fail
    go_ret
    exact ⟨by rw [hok2.out]; rfl, hB.out⟩
theorem validateRI_any {v : Value} {a : TR} {w : World} (h : IsTR w w.heap.size v a) :
  Calls Tryz.prog 47 #[.iface 47 v] w (Ret fun r w' => r = .int .i64 (errno a.ok) ∧ Below w.heap.size w w') := by
 obtain ⟨A1, c1, A2, c2, A3, c3, rfl, h1, h2, h3, h4⟩ := h
 cases hb : a.head
 ·exact validateR_bad h3 hb
 ·exact validateR_good h1 h2 h3 hb
end Go.Proofs.YtpmceapjnnkhjaaGreatDoor
namespace Go.Proofs.YtpmceapjnnkhjaaGreatDoor
open Go.RowKit
set_option maxHeartbeats 16000000
set_option maxRecDepth 100000
theorem TR.head_inC (a : TR) : a.head = (inC a.letters 1 8 && inC a.states 0 400) := by
 simp only [TR.head, inC, Bool.and_assoc]
theorem refValidateR_any {v : Value} {a : TR} {w : World} (h : IsTR w w.heap.size v a) :
  Calls Tryz.prog 28 #[v] w (Ret fun r w' => r = .int .i64 (errno a.ok) ∧ Below w.heap.size w w') := by
 obtain ⟨A1, c1, A2, c2, A3, c3, rfl, h1, h2, h3, h4⟩ := h
 obtain ⟨L, S, st, ac, ed⟩ := a
 dsimp only at *
 obtain ⟨w1, hw1, hb1, hB1, hk1⟩ := box_blk w #[.int .i64 L, .int .i64 S, .slice A1 st.length c1, .slice A2 ac.length c2, .slice A3 ed.length c3] 25
 have hc1 := hB1.cell
 have hs1 := hb1.size
 have l3 := h3.1
 obtain ⟨p, hp⟩ : ∃ p : Mv → Bool, p = TR.moveB ⟨L, S, st, ac, ed⟩ := ⟨_, rfl⟩
 have hpe := hide (show ∀ e : Mv, p e = (inN S e.frm && inN S e.to && (inN L e.inn && inN L e.out)) from fun e => by rw [hp]; rfl)
 have hok : Hid (TR.ok ⟨L, S, st, ac, ed⟩ = (inC L 1 8 && inC S 0 400 && st.all (inN S) && ac.all (inN S) && ed.all p)) := by show _ = _; rw [TR.ok_eq, TR.head_inC, hp]
 generalize TR.ok ⟨L, S, st, ac, ed⟩ = OK at *
 have hS1 := hide ((h1.below hb1).mono hs1)
 have hS2 := hide ((h2.below hb1).mono hs1)
 have hbel := hide (fun (hS : inC S 0 400 = true) => (show 0 ≤ S ∧ S ≤ 9223372036854775807 from by simp [inC] at hS; omega))
 have hb1H := hide hb1
 have hB1H := hide hB1
 obtain ⟨b1, e1⟩ : ∃ b, Hid (inC L 1 8 = b) := ⟨_, rfl⟩
 obtain ⟨b2, e2⟩ : ∃ b, Hid (inC S 0 400 = b) := ⟨_, rfl⟩
 obtain ⟨b3, e3⟩ : ∃ b, Hid (st.all (inN S) = b) := ⟨_, rfl⟩
 obtain ⟨b4, e4⟩ : ∃ b, Hid (ac.all (inN S) = b) := ⟨_, rfl⟩
 rw [e1.out, e2.out, e3.out, e4.out] at hok
 have hl1 := hB1.lt
 clear hp h1 h2 h4 hk1 hb1 hB1
 cases b1
 ·clear h3
  go_enter Tryz.func28, Tryz.ntmps28
  go_wp2_with (go_at_call 58; refine (within_any _ _ _ _).mono ?_; rintro e w' ⟨rfl, rfl⟩; rw [e1.out])
  go_ret
  exact ⟨by rw [hok.out]; rfl, hb1H.out⟩
 ·cases b2
  ·clear h3
   go_enter Tryz.func28, Tryz.ntmps28
   go_wp2_with (go_at_call 58; refine (within_any _ _ _ _).mono ?_; rintro e w' ⟨rfl, rfl⟩; first | rw [e1.out] | rw [e2.out])
   go_ret
   exact ⟨by rw [hok.out]; rfl, hb1H.out⟩
  ·obtain ⟨hS0, hSm⟩ := hbel.out e2.out
   cases b3
   ·clear h3
    go_enter Tryz.func28, Tryz.ntmps28
    go_wp2_with (first | (go_at_call 58; refine (within_any _ _ _ _).mono ?_; rintro e w' ⟨rfl, rfl⟩; first | rw [e1.out] | rw [e2.out]) | (go_at_call 59; refine (below_any hS1.out hS0 hSm).mono ?_; rintro e w' ⟨rfl, rfl⟩; rw [e3.out]))
    go_ret
    exact ⟨by rw [hok.out]; rfl, hb1H.out⟩
   ·cases b4
    ·clear h3
     go_enter Tryz.func28, Tryz.ntmps28
     go_wp2_with (first | (go_at_call 58; refine (within_any _ _ _ _).mono ?_; rintro e w' ⟨rfl, rfl⟩; first | rw [e1.out] | rw [e2.out]))
     refine (below_any hS1.out hS0 hSm).mono ?_
     rintro e w' ⟨rfl, rfl⟩
     rw [e3.out]
     go_wp2_with fail
     refine (below_any hS2.out hS0 hSm).mono ?_
     rintro e w' ⟨rfl, rfl⟩
     rw [e4.out]
     go_wp2_with fail
     go_ret
     exact ⟨by rw [hok.out]; rfl, hb1H.out⟩
    ·have h3H := hide h3
     clear h3
     go_enter Tryz.func28, Tryz.ntmps28
     go_wp2_with (first | (go_at_call 58; refine (within_any _ _ _ _).mono ?_; rintro e w' ⟨rfl, rfl⟩; first | rw [e1.out] | rw [e2.out]))
     refine (below_any hS1.out hS0 hSm).mono ?_
     rintro e w' ⟨rfl, rfl⟩
     rw [e3.out]
     go_wp2_with fail
     refine (below_any hS2.out hS0 hSm).mono ?_
     rintro e w' ⟨rfl, rfl⟩
     rw [e4.out]
     go_wp2_with fail
     obtain ⟨n, hn⟩ : ∃ n, n = ed.length := ⟨_, rfl⟩
     have hnH := hide hn
     rw [← hn] at hc1 hB1H l3
     clear hw1 hn
     go_loopw [3] (fun ii wr => ∃ (k : Nat), ii = .int .i64 (k : Int) ∧ k ≤ n ∧ Hid ((ed.take k).all p = true) ∧ Hid (Below w1.heap.size w1 wr)) (fun ii _ => n - (intOf ii).toNat)
     case atStart => exact ⟨0, rfl, Nat.zero_le _, rfl, hide (Below.refl _ _)⟩
     case round =>
      obtain ⟨k, rfl, hk, hA, hBr⟩ := hrel
      have hcr := (hB1H.out.at hl1 hBr.out).cell
      have hb0r := hb1H.out.trans (hBr.out.mono hs1)
      by_cases hlt : k < n
      ·obtain ⟨b, off, x, rfl, hbk, hx, hc⟩ := h3H.out.at (k := k) (by rw [← hnH.out]; exact hlt)
       have hcc := fun j hj => (hb0r.cell (by exact hbk)).trans (hc j hj)
       have q0 := hcc 0 (by omega)
       have q1 := hcc 1 (by omega)
       have q2 := hcc 2 (by omega)
       have q3 := hcc 3 (by omega)
       simp only [Nat.add_zero, encM] at q0 q1 q2 q3
       have hpx := hide (hpe.out x)
       have hall := hide (all_take_succ (p := p) hx hA.out)
       have hfal := hide (fun h => all_false (p := p) hx h)
       obtain ⟨x0, x1, x2, x3⟩ := x
       dsimp only at *
       obtain ⟨w2, hw2, hb2, hB2, hk2⟩ := box_blk wr #[.int .i64 x0, .int .i64 x1, .int .i64 x2, .int .i64 x3] 95
       have hc2 := hB2.cell
       have hcr2 := (hB1H.out.at hl1 (hBr.out.trans (hb2.mono hBr.out.size))).cell
       have hf := hide (hb0r.trans (hb2.mono hb0r.size))
       have hf2 := hide (hBr.out.trans (hb2.mono hBr.out.size))
       obtain ⟨r1, d1⟩ : ∃ r, Hid (inN S x0 = r) := ⟨_, rfl⟩
       obtain ⟨r2, d2⟩ : ∃ r, Hid (inN S x3 = r) := ⟨_, rfl⟩
       obtain ⟨r3, d3⟩ : ∃ r, Hid (inN L x1 = r) := ⟨_, rfl⟩
       obtain ⟨r4, d4⟩ : ∃ r, Hid (inN L x2 = r) := ⟨_, rfl⟩
       have hpr : Hid (p ⟨x0, x1, x2, x3⟩ = (r1 && r2 && (r3 && r4))) := by show _ = _; rw [hpx.out, d1.out, d2.out, d3.out, d4.out]
       have hSb : S ≤ 400 := by have := e2.out; simp [inC] at this; omega
       have hLb : 1 ≤ L ∧ L ≤ 8 := by have := e1.out; simp [inC] at this; omega
       obtain ⟨hL1, hL2⟩ := hLb
       clear hx hc hcc hb2 hB2 hk2 hb0r
       cases r1
       ·go_wp2_with (go_at_call 58; refine (within_any _ _ _ _).mono ?_; rintro e w' ⟨rfl, rfl⟩; rw [inC_inN]; first | rw [d1.out] | rw [d2.out] | rw [d3.out] | rw [d4.out])
        go_ret
        exact ⟨by rw [hok.out, hfal.out (by rw [hpr.out]; rfl)]; rfl, hf.out⟩
       ·cases r2
        ·go_wp2_with (go_at_call 58; refine (within_any _ _ _ _).mono ?_; rintro e w' ⟨rfl, rfl⟩; rw [inC_inN]; first | rw [d1.out] | rw [d2.out] | rw [d3.out] | rw [d4.out])
         go_ret
         exact ⟨by rw [hok.out, hfal.out (by rw [hpr.out]; rfl)]; rfl, hf.out⟩
        ·cases r3
         ·go_wp2_with (go_at_call 58; refine (within_any _ _ _ _).mono ?_; rintro e w' ⟨rfl, rfl⟩; rw [inC_inN]; first | rw [d1.out] | rw [d2.out] | rw [d3.out] | rw [d4.out])
          go_ret
          exact ⟨by rw [hok.out, hfal.out (by rw [hpr.out]; rfl)]; rfl, hf.out⟩
         ·cases r4
          ·go_wp2_with (go_at_call 58; refine (within_any _ _ _ _).mono ?_; rintro e w' ⟨rfl, rfl⟩; rw [inC_inN]; first | rw [d1.out] | rw [d2.out] | rw [d3.out] | rw [d4.out])
           go_ret
           exact ⟨by rw [hok.out, hfal.out (by rw [hpr.out]; rfl)]; rfl, hf.out⟩
          ·go_wp2_with (go_at_call 58; refine (within_any _ _ _ _).mono ?_; rintro e w' ⟨rfl, rfl⟩; rw [inC_inN]; first | rw [d1.out] | rw [d2.out] | rw [d3.out] | rw [d4.out])
           exact ⟨⟨k + 1, by go_num, by omega, hide (hall.out (by rw [hpr.out]; rfl)), hf2⟩, by simp [intOf]; omega⟩
      ·have hb0H := hide hb0r
       clear hb0r
       go_wp2_with fail
       go_ret
       have hAll := hA.out
       rw [List.take_of_length_le (by have := hnH.out; omega)] at hAll
       exact ⟨by rw [hok.out, hAll]; rfl, hb0H.out⟩
end Go.Proofs.YtpmceapjnnkhjaaGreatDoor
