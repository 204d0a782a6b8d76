/-
  Part PD of a proof.
-/
import Derived.Test.YtakpmdmjbgipiaaGreatDoorPA
import Derived.Test.YtakpmdmjbgipiaaGreatDoorPC
set_option maxHeartbeats 16000000
set_option maxRecDepth 100000
set_option linter.unusedVariables false
set_option linter.unusedSimpArgs false
namespace Go.Proofs.YtakpmdmjbgipiaaGreatDoor
open Go.RowKit
set_option maxHeartbeats 16000000
set_option maxRecDepth 100000
theorem shapeA (cs : Array Value) (w : World) : (method 299 48 (.agg cs) "familycheck/word.shape").run Tryz.prog w = .ok (147, .agg cs) w := by kernel_rfl
theorem shapeR (cs : Array Value) (w : World) : (method 299 47 (.agg cs) "familycheck/word.shape").run Tryz.prog w = .ok (146, .agg cs) w := by kernel_rfl
theorem assertA (cs : Array Value) (w : World) : (Instr.typeAssert (.iface 48 (.agg cs)) 87 48 true).run Tryz.prog w = .ok (.tuple #[.agg cs, .bool true]) w := by kernel_rfl
theorem assertRA (cs : Array Value) (w : World) : (Instr.typeAssert (.iface 47 (.agg cs)) 87 48 true).run Tryz.prog w = .ok (.tuple #[.agg #[.int .i64 0, .int .i64 0, .slice none 0 0, .slice none 0 0, .slice none 0 0], .bool false]) w := by kernel_rfl
theorem assertR (cs : Array Value) (w : World) : (Instr.typeAssert (.iface 47 (.agg cs)) 87 47 true).run Tryz.prog w = .ok (.tuple #[.agg cs, .bool true]) w := by kernel_rfl
attribute [go_sem] shapeA shapeR assertA assertRA assertR
theorem shapeA_any (w : World) (L S : Int) (v2 v3 v4 : Value) : Calls Tryz.prog 147 #[.agg #[.int .i64 L, .int .i64 S, v2, v3, v4]] w (Ret fun r w' => r = .tuple #[.int .i64 L, .int .i64 S] ∧ Below w.heap.size w w') := by
 obtain ⟨w1, hw1, hb1, hB1, hk1⟩ := box_blk w #[.int .i64 L, .int .i64 S, v2, v3, v4] 48
 have hc1 := hB1.cell
 go_enter Tryz.func147, Tryz.ntmps147
 go_wp2_with fail
 refine Reg.cP [0, 1, 0, 4, 3, 31] ?_
 go_wp2_with fail
 exact bodyPost_ret (v := .tuple #[.int .i64 L, .int .i64 S]) (by simp [results, Tryz.results147, go_sem]) rfl ⟨rfl, (hb1.trans ((drewB w1).mono hb1.size))⟩
def errno (b : Bool) : Int := if b then 0 else 1
def WA.head (a : WA) : Bool := decide (1 ≤ a.letters) && decide (a.letters ≤ 8) && decide (0 ≤ a.states) && decide (a.states ≤ 400)
theorem WA.ok_eq (a : WA) : a.ok = (a.head && a.start.all (inN a.states) && a.accept.all (inN a.states) && a.edges.all a.edgeB) := rfl
theorem sl_new (w : World) (l : List Int) (hl : l.length ≤ 100) : Sl (w.alloc (.cells (l.map (Value.int .i64)).toArray 3)) (w.heap.size + 1) 1 encI (some ⟨w.heap.size, 0, none⟩) l := by
 refine ⟨by omega, fun _ => ⟨w.heap.size, 0, rfl, by omega, fun k d hd j hj => ?_⟩⟩
 obtain rfl : j = 0 := by omega
 have := (Blk.new w 3 (l.map (Value.int .i64)).toArray).cell (0 + k * 1 + 0)
 rw [this]
 simp [hd, encI]
theorem validate_bad {w : World} {a : WA} {A1 A2 A3 : Option Addr} {c1 c2 c3 : Nat} (h3 : Sl w w.heap.size 3 encE A3 a.edges) (hb : a.head = false) :
  Calls Tryz.prog 47 #[.iface 48 (.agg #[.int .i64 a.letters, .int .i64 a.states, .slice A1 a.start.length c1, .slice A2 a.accept.length c2, .slice A3 a.edges.length c3])] w (Ret fun r w' => r = .int .i64 (errno a.ok) ∧ Below w.heap.size w w') := by
 have hok : Hid (a.ok = false) := by show _ = _; rw [WA.ok_eq, hb]; rfl
 obtain ⟨L, S, st, ac, ed⟩ := a
 dsimp only at *
 generalize WA.ok ⟨L, S, st, ac, ed⟩ = OK at *
 have hn3 := h3.1
 have hcs : L < 1 ∨ (1 ≤ L ∧ 8 < L) ∨ (1 ≤ L ∧ L ≤ 8 ∧ S < 0) ∨ (1 ≤ L ∧ L ≤ 8 ∧ 0 ≤ S ∧ 400 < S) := by simp [WA.head] at hb; omega
 clear hb
 rcases hcs with d1 | ⟨d1, d2⟩ | ⟨d1, d2, d3⟩ | ⟨d1, d2, d3, d4⟩
 all_goals
  go_enter Tryz.func47, Tryz.ntmps47
  go_wp2_with (go_at_call 147; refine Calls.ret (shapeA_any _ _ _ _ _ _) ?_; rintro v w0 ⟨rfl, hb0⟩; obtain ⟨w1, hw1, hb1, hB1, hk1⟩ := box_blk w0 #[.int .i64 L, .int .i64 S, .slice A1 st.length c1, .slice A2 ac.length c2, .slice A3 ed.length c3] 48; have hc1 := hB1.cell; have hs1 := hide (hb0.trans (hb1.mono hb0.size)); clear hb1 hB1 hk1)
  go_loopw [5, 51] (fun bb ii wr => ∃ (k : Nat), ii = .int .i64 (k : Int) ∧ bb = .bool false ∧ k ≤ ed.length ∧ Hid (Below w.heap.size w wr) ∧ Below w1.heap.size w1 wr) (fun _ ii _ => ed.length - (intOf ii).toNat)
  case atStart => exact ⟨0, rfl, rfl, Nat.zero_le _, hs1, Below.refl _ _⟩
  case round =>
   obtain ⟨k, rfl, rfl, hk, hB, hBB⟩ := hrel
   by_cases hlt : k < ed.length
   ·obtain ⟨b, off, x, rfl, hbk, hx, hc⟩ := h3.at hlt
    have hcc := fun j hj => (hB.out.cell (by exact hbk)).trans (hc j hj)
    have e0 := hcc 0 (by omega)
    have e1 := hcc 1 (by omega)
    have e2 := hcc 2 (by omega)
    simp only [Nat.add_zero, encE] at e0 e1 e2
    obtain ⟨x0, x1, x2⟩ := x
    dsimp only at *
    obtain ⟨w2, hw2, hb2, hB2, hk2⟩ := box_blk wr #[.int .i64 x0, .int .i64 x1, .int .i64 x2] 65
    have hf := hide (hB.out.trans (hb2.mono hB.out.size))
    have hf2 := hide (hBB.trans (hb2.mono hBB.size))
    clear hx hc hcc hb2 hB2 hk2
    go_wp2_with fail
    exact ⟨⟨k + 1, by go_num, rfl, by omega, hf, hf2.out⟩, by simp [intOf]; omega⟩
   ·go_wp2_with fail
    go_ret
    exact ⟨by rw [hok.out]; rfl, hB.out⟩
theorem denote2 (n x y : Int) (c : Nat) (w : World) : Calls Tryz.prog 75 #[.int .i64 n, .slice (some ⟨w.heap.size, 0, none⟩) 2 c] (w.alloc (.cells #[.int .i64 x, .int .i64 y] 3)) fun e w' => e = .returned (.bool (inN n x && inN n y)) ∧ w.alloc (.cells #[.int .i64 x, .int .i64 y] 3) = w' := by
 have := denote_any (c := c) n (sl_new w [x, y] (by simp))
 simpa using this
theorem denote1 (n x : Int) (c : Nat) (w : World) {g : Nat} (hg : g = w.heap.size) : Calls Tryz.prog 75 #[.int .i64 n, .slice (some ⟨g, 0, none⟩) 1 c] (w.alloc (.cells #[.int .i64 x] 3)) fun e w' => e = .returned (.bool (inN n x)) ∧ w.alloc (.cells #[.int .i64 x] 3) = w' := by
 subst hg
 have := denote_any (c := c) n (sl_new w [x] (by simp))
 simpa using this
theorem validate_good {w : World} {a : WA} {A1 A2 A3 : Option Addr} {c1 c2 c3 : Nat} (h1 : Sl w w.heap.size 1 encI A1 a.start) (h2 : Sl w w.heap.size 1 encI A2 a.accept) (h3 : Sl w w.heap.size 3 encE A3 a.edges) (hb : a.head = true) :
  Calls Tryz.prog 47 #[.iface 48 (.agg #[.int .i64 a.letters, .int .i64 a.states, .slice A1 a.start.length c1, .slice A2 a.accept.length c2, .slice A3 a.edges.length c3])] w (Ret fun r w' => r = .int .i64 (errno a.ok) ∧ Below w.heap.size w w') := by
 have hok := hide (WA.ok_eq a)
 rw [hb] at hok
 obtain ⟨L, S, st, ac, ed⟩ := a
 dsimp only at *
 have hn3 := h3.1
 simp only [WA.head, Bool.and_eq_true, decide_eq_true_eq] at hb
 obtain ⟨⟨⟨d1, d2⟩, d3⟩, d4⟩ := hb
 obtain ⟨p, hp⟩ : ∃ p : Edg → Bool, p = WA.edgeB ⟨L, S, st, ac, ed⟩ := ⟨_, rfl⟩
 have hpe : ∀ e : Edg, p e = (inN S e.frm && inN S e.to && inN L e.letter) := fun e => by rw [hp]; rfl
 have hok2 : Hid (WA.ok ⟨L, S, st, ac, ed⟩ = (st.all (inN S) && ac.all (inN S) && ed.all p)) := by show _ = _; rw [hok.out, hp]; simp
 have hpH := hide hpe
 clear hok hp hpe
 generalize WA.ok ⟨L, S, st, ac, ed⟩ = OK at *
 obtain ⟨s1, hs1⟩ : ∃ b, Hid (st.all (inN S) = b) := ⟨_, rfl⟩
 obtain ⟨s2, hs2⟩ : ∃ b, Hid (ac.all (inN S) = b) := ⟨_, rfl⟩
 rw [hs1.out, hs2.out] at hok2
 cases s1 <;> cases s2
 case true.true =>
  go_enter Tryz.func47, Tryz.ntmps47
  go_wp2_with (first
   | (go_at_call 147; refine Calls.ret (shapeA_any _ _ _ _ _ _) ?_; rintro v w0 ⟨rfl, hb0⟩; obtain ⟨w1, hw1, hb1, hB1, hk1⟩ := box_blk w0 #[.int .i64 L, .int .i64 S, .slice A1 st.length c1, .slice A2 ac.length c2, .slice A3 ed.length c3] 48; have hc1 := hB1.cell; have hsb := hide (hb0.trans (hb1.mono hb0.size)); clear hb1 hB1 hk1)
   | (go_at_call 75; refine (denote_any _ (by first | exact h1.below hsb.out | exact h2.below hsb.out)).mono ?_; rintro e w' ⟨rfl, rfl⟩; first | rw [hs1.out] | rw [hs2.out]))
  go_loopw [5, 51] (fun bb ii wr => ∃ (k : Nat) (b : Bool), ii = .int .i64 (k : Int) ∧ bb = .bool b ∧ k ≤ ed.length ∧ Hid ((ed.take k).all p = b) ∧ Hid (Below w.heap.size w wr) ∧ Below w1.heap.size w1 wr) (fun _ ii _ => ed.length - (intOf ii).toNat)
  case atStart => exact ⟨0, true, rfl, rfl, Nat.zero_le _, rfl, hsb, Below.refl _ _⟩
  case round =>
   obtain ⟨k, b, rfl, rfl, hk, hE, hB, hBB⟩ := hrel
   by_cases hlt : k < ed.length
   ·obtain ⟨bl, off, x, rfl, hbk, hx, hc⟩ := h3.at hlt
    have hcc := fun j hj => (hB.out.cell (by exact hbk)).trans (hc j hj)
    have e0 := hcc 0 (by omega)
    have e1 := hcc 1 (by omega)
    have e2 := hcc 2 (by omega)
    simp only [Nat.add_zero, encE] at e0 e1 e2
    have hpx := hide (hpH.out x)
    have hnx : Hid ((ed.take (k + 1)).all p = (b && p x)) := by show _ = _; rw [take_snoc hx, List.all_append, hE.out]; simp
    obtain ⟨x0, x1, x2⟩ := x
    dsimp only at *
    obtain ⟨w2, hw2, hb2, hB2, hk2⟩ := box_blk wr #[.int .i64 x0, .int .i64 x1, .int .i64 x2] 65
    have hc2 := hB2.cell
    have hc3 : ∀ o i, (w2.alloc o).cell? ⟨wr.heap.size, i, none⟩ = #[.int .i64 x0, .int .i64 x1, .int .i64 x2][i]? := fun o i => (World.cell?_alloc_lt w2 o _ hB2.lt).trans (hc2 i)
    have hs2' := hide hb2.size
    have hf := hide (hB.out.trans (hb2.mono hB.out.size))
    have hf2 := hide (hBB.trans (hb2.mono hBB.size))
    clear hx hc hcc hb2 hB2 hk2
    cases b
    ·go_wp2_with fail
     exact ⟨⟨k + 1, false, by go_num, rfl, by omega, by show _ = _; rw [hnx.out]; rfl, hf, hf2.out⟩, by simp [intOf]; omega⟩
    ·obtain ⟨r1, hr1⟩ : ∃ r, Hid ((inN S x0 && inN S x2) = r) := ⟨_, rfl⟩
     obtain ⟨r2, hr2⟩ : ∃ r, Hid (inN L x1 = r) := ⟨_, rfl⟩
     have hpr : Hid (p ⟨x0, x1, x2⟩ = (r1 && r2)) := by show _ = _; rw [hpx.out, hr1.out, hr2.out]
     cases r1
     ·go_wp2_with (go_at_call 75; refine (denote2 _ _ _ _ _).mono ?_; rintro e w' ⟨rfl, rfl⟩; rw [hr1.out])
      exact ⟨⟨k + 1, false, by go_num, rfl, by omega, by show _ = _; rw [hnx.out, hpr.out]; rfl, hide (hf.out.alloc hf.out.size _), hf2.out.alloc hf2.out.size _⟩, by simp [intOf]; omega⟩
     ·go_wp2_with fail
      refine (denote2 _ _ _ _ _).mono ?_
      rintro e w' ⟨rfl, rfl⟩
      rw [hr1.out]
      go_wp2_with fail
      refine (denote1 L x1 _ _ (by simp)).mono ?_
      rintro e w' ⟨rfl, rfl⟩
      rw [hr2.out]
      go_wp2_with fail
      exact ⟨⟨k + 1, r2, by go_num, rfl, by omega, by show _ = _; rw [hnx.out, hpr.out]; rfl, hide ((hf.out.alloc hf.out.size _).alloc (by have := hf.out.size; simp; omega) _), (hf2.out.alloc hf2.out.size _).alloc (by have := hf2.out.size; simp; omega) _⟩, by simp [intOf]; omega⟩
   ·have hA : Hid (ed.all p = b) := by show _ = _; rw [← hE.out, List.take_of_length_le (by omega)]
    cases b
    all_goals
     go_wp2_with fail
     go_ret
     exact ⟨by rw [hok2.out, hA.out]; rfl, hB.out⟩
 all_goals
  go_enter Tryz.func47, Tryz.ntmps47
  go_wp2_with (first
   | (go_at_call 147; refine Calls.ret (shapeA_any _ _ _ _ _ _) ?_; rintro v w0 ⟨rfl, hb0⟩; obtain ⟨w1, hw1, hb1, hB1, hk1⟩ := box_blk w0 #[.int .i64 L, .int .i64 S, .slice A1 st.length c1, .slice A2 ac.length c2, .slice A3 ed.length c3] 48; have hc1 := hB1.cell; have hsb := hide (hb0.trans (hb1.mono hb0.size)); clear hb1 hB1 hk1)
   | (go_at_call 75; refine (denote_any _ (by first | exact h1.below hsb.out | exact h2.below hsb.out)).mono ?_; rintro e w' ⟨rfl, rfl⟩; first | rw [hs1.out] | rw [hs2.out]))
  go_loopw [5, 51] (fun bb ii wr => ∃ (k : Nat), ii = .int .i64 (k : Int) ∧ bb = .bool false ∧ k ≤ ed.length ∧ Hid (Below w.heap.size w wr) ∧ Below w1.heap.size w1 wr) (fun _ ii _ => ed.length - (intOf ii).toNat)
  case atStart => exact ⟨0, rfl, rfl, Nat.zero_le _, hsb, Below.refl _ _⟩
  case round =>
   obtain ⟨k, rfl, rfl, hk, hB, hBB⟩ := hrel
   by_cases hlt : k < ed.length
   ·obtain ⟨b, off, x, rfl, hbk, hx, hc⟩ := h3.at hlt
    have hcc := fun j hj => (hB.out.cell (by exact hbk)).trans (hc j hj)
    have e0 := hcc 0 (by omega)
    have e1 := hcc 1 (by omega)
    have e2 := hcc 2 (by omega)
    simp only [Nat.add_zero, encE] at e0 e1 e2
    obtain ⟨x0, x1, x2⟩ := x
    dsimp only at *
    obtain ⟨w2, hw2, hb2, hB2, hk2⟩ := box_blk wr #[.int .i64 x0, .int .i64 x1, .int .i64 x2] 65
    have hf := hide (hB.out.trans (hb2.mono hB.out.size))
    have hf2 := hide (hBB.trans (hb2.mono hBB.size))
    clear hx hc hcc hb2 hB2 hk2
    go_wp2_with fail
    exact ⟨⟨k + 1, by go_num, rfl, by omega, hf, hf2.out⟩, by simp [intOf]; omega⟩
   ·go_wp2_with fail
    go_ret
    exact ⟨by rw [hok2.out]; rfl, hB.out⟩
theorem validateI_any {v : Value} {a : WA} {w : World} (h : IsWA w w.heap.size v a) :
  Calls Tryz.prog 47 #[.iface 48 v] w (Ret fun r w' => r = .int .i64 (errno a.ok) ∧ Below w.heap.size w w') := by
 obtain ⟨A1, c1, A2, c2, A3, c3, rfl, h1, h2, h3, h4⟩ := h
 cases hb : a.head
 ·exact validate_bad h3 hb
 ·exact validate_good h1 h2 h3 hb
theorem validate_any {v : Value} {a : WA} {w : World} (h : IsWA w w.heap.size v a) :
  Calls Tryz.prog 43 #[v] w (Ret fun r w' => r = .int .i64 (errno a.ok) ∧ Below w.heap.size w w') := by
 have hI := hide h
 obtain ⟨A1, c1, A2, c2, A3, c3, rfl, h1, h2, h3, h4⟩ := h
 obtain ⟨w1, hw1, hb1, hB1, hk1⟩ := box_blk w #[.int .i64 a.letters, .int .i64 a.states, .slice A1 a.start.length c1, .slice A2 a.accept.length c2, .slice A3 a.edges.length c3] 28
 have hc1 := hB1.cell
 have hI1 := hide ((hI.out.below hb1).keep (fun _ _ => rfl) hb1.size)
 have hbH := hide hb1
 clear h1 h2 h3 h4 hk1 hb1
 go_enter Tryz.func43, Tryz.ntmps43
 go_wp2_with (go_at_call 47; refine Calls.ret (validateI_any hI1.out) ?_; rintro v w2 ⟨rfl, hb2⟩)
 go_ret
 exact ⟨rfl, hbH.out.trans (hb2.mono hbH.out.size)⟩
end Go.Proofs.YtakpmdmjbgipiaaGreatDoor
