/-
  Part PN of a proof.
-/
import Derived.Test.YtakpmdmjbgipiaaGreatDoorPA
import Derived.Test.YtakpmdmjbgipiaaGreatDoorPM
set_option maxHeartbeats 16000000
set_option maxRecDepth 100000
set_option linter.unusedVariables false
set_option linter.unusedSimpArgs false
namespace Go.Proofs.YtakpmdmjbgipiaaGreatDoor
open Go.RowKit
set_option maxHeartbeats 16000000
set_option maxRecDepth 100000
theorem WA.head_inC (a : WA) : a.head = (inC a.letters 1 8 && inC a.states 0 400) := by
 simp only [WA.head, inC, Bool.and_assoc]
theorem refValidate_any {v : Value} {a : WA} {w : World} (h : IsWA w w.heap.size v a) :
  Calls Tryz.prog 29 #[v] w (Ret fun r w' => r = .int .i64 (errno a.ok) ∧ Below w.heap.size w w') := by
 obtain ⟨A1, c1, A2, c2, A3, c3, rfl, h1, h2, h3, h4⟩ := h
 obtain ⟨L, S, st, ac, ed⟩ := a
 dsimp only at *
 obtain ⟨w1, hw1, hb1, hB1, hk1⟩ := box_blk w #[.int .i64 L, .int .i64 S, .slice A1 st.length c1, .slice A2 ac.length c2, .slice A3 ed.length c3] 28
 have hc1 := hB1.cell
 have hs1 := hb1.size
 have l3 := h3.1
 obtain ⟨p, hp⟩ : ∃ p : Edg → Bool, p = WA.edgeB ⟨L, S, st, ac, ed⟩ := ⟨_, rfl⟩
 have hpe := hide (show ∀ e : Edg, p e = (inN S e.frm && inN S e.to && inN L e.letter) from fun e => by rw [hp]; rfl)
 have hok : Hid (WA.ok ⟨L, S, st, ac, ed⟩ = (inC L 1 8 && inC S 0 400 && st.all (inN S) && ac.all (inN S) && ed.all p)) := by show _ = _; rw [WA.ok_eq, WA.head_inC, hp]
 generalize WA.ok ⟨L, S, st, ac, ed⟩ = OK at *
 have hS1 := hide ((h1.below hb1).mono hs1)
 have hS2 := hide ((h2.below hb1).mono hs1)
 have hbel := hide (fun (hS : inC S 0 400 = true) => (show 0 ≤ S ∧ S ≤ 9223372036854775807 from by simp [inC] at hS; omega))
 have hb1H := hide hb1
 have hB1H := hide hB1
 obtain ⟨b1, e1⟩ : ∃ b, Hid (inC L 1 8 = b) := ⟨_, rfl⟩
 obtain ⟨b2, e2⟩ : ∃ b, Hid (inC S 0 400 = b) := ⟨_, rfl⟩
 obtain ⟨b3, e3⟩ : ∃ b, Hid (st.all (inN S) = b) := ⟨_, rfl⟩
 obtain ⟨b4, e4⟩ : ∃ b, Hid (ac.all (inN S) = b) := ⟨_, rfl⟩
 rw [e1.out, e2.out, e3.out, e4.out] at hok
 have hl1 := hB1.lt
 clear hp h1 h2 h4 hk1 hb1 hB1
 cases b1
 ·clear h3
  go_enter Tryz.func29, Tryz.ntmps29
  go_wp2_with (go_at_call 58; refine (within_any _ _ _ _).mono ?_; rintro e w' ⟨rfl, rfl⟩; rw [e1.out])
  go_ret
  exact ⟨by rw [hok.out]; rfl, hb1H.out⟩
 ·cases b2
  ·clear h3
   go_enter Tryz.func29, Tryz.ntmps29
   go_wp2_with (go_at_call 58; refine (within_any _ _ _ _).mono ?_; rintro e w' ⟨rfl, rfl⟩; first | rw [e1.out] | rw [e2.out])
   go_ret
   exact ⟨by rw [hok.out]; rfl, hb1H.out⟩
  ·obtain ⟨hS0, hSm⟩ := hbel.out e2.out
   cases b3
   ·clear h3
    go_enter Tryz.func29, Tryz.ntmps29
    go_wp2_with (first | (go_at_call 58; refine (within_any _ _ _ _).mono ?_; rintro e w' ⟨rfl, rfl⟩; first | rw [e1.out] | rw [e2.out]) | (go_at_call 59; refine (below_any hS1.out hS0 hSm).mono ?_; rintro e w' ⟨rfl, rfl⟩; rw [e3.out]))
    go_ret
    exact ⟨by rw [hok.out]; rfl, hb1H.out⟩
   ·cases b4
    ·clear h3
     go_enter Tryz.func29, Tryz.ntmps29
     go_wp2_with (first | (go_at_call 58; refine (within_any _ _ _ _).mono ?_; rintro e w' ⟨rfl, rfl⟩; first | rw [e1.out] | rw [e2.out]))
     refine (below_any hS1.out hS0 hSm).mono ?_
     rintro e w' ⟨rfl, rfl⟩
     rw [e3.out]
     go_wp2_with fail
     refine (below_any hS2.out hS0 hSm).mono ?_
     rintro e w' ⟨rfl, rfl⟩
     rw [e4.out]
     go_wp2_with fail
     go_ret
     exact ⟨by rw [hok.out]; rfl, hb1H.out⟩
    ·have h3H := hide h3
     clear h3
     go_enter Tryz.func29, Tryz.ntmps29
     go_wp2_with (first | (go_at_call 58; refine (within_any _ _ _ _).mono ?_; rintro e w' ⟨rfl, rfl⟩; first | rw [e1.out] | rw [e2.out]))
     refine (below_any hS1.out hS0 hSm).mono ?_
     rintro e w' ⟨rfl, rfl⟩
     rw [e3.out]
     go_wp2_with fail
     refine (below_any hS2.out hS0 hSm).mono ?_
     rintro e w' ⟨rfl, rfl⟩
     rw [e4.out]
     go_wp2_with fail
     obtain ⟨n, hn⟩ : ∃ n, n = ed.length := ⟨_, rfl⟩
     have hnH := hide hn
     rw [← hn] at hc1 hB1H l3
     clear hw1 hn
     go_loopw [3] (fun ii wr => ∃ (k : Nat), ii = .int .i64 (k : Int) ∧ k ≤ n ∧ Hid ((ed.take k).all p = true) ∧ Hid (Below w1.heap.size w1 wr)) (fun ii _ => n - (intOf ii).toNat)
     case atStart => exact ⟨0, rfl, Nat.zero_le _, rfl, hide (Below.refl _ _)⟩
     case round =>
      obtain ⟨k, rfl, hk, hA, hBr⟩ := hrel
      have hcr := (hB1H.out.at hl1 hBr.out).cell
      have hb0r := hb1H.out.trans (hBr.out.mono hs1)
      by_cases hlt : k < n
      ·obtain ⟨b, off, x, rfl, hbk, hx, hc⟩ := h3H.out.at (k := k) (by rw [← hnH.out]; exact hlt)
       have hcc := fun j hj => (hb0r.cell (by exact hbk)).trans (hc j hj)
       have q0 := hcc 0 (by omega)
       have q1 := hcc 1 (by omega)
       have q2 := hcc 2 (by omega)
       simp only [Nat.add_zero, encE] at q0 q1 q2
       have hpx := hide (hpe.out x)
       have hall := hide (all_take_succ (p := p) hx hA.out)
       have hfal := hide (fun h => all_false (p := p) hx h)
       obtain ⟨x0, x1, x2⟩ := x
       dsimp only at *
       obtain ⟨w2, hw2, hb2, hB2, hk2⟩ := box_blk wr #[.int .i64 x0, .int .i64 x1, .int .i64 x2] 65
       have hc2 := hB2.cell
       have hcr2 := (hB1H.out.at hl1 (hBr.out.trans (hb2.mono hBr.out.size))).cell
       have hf := hide (hb0r.trans (hb2.mono hb0r.size))
       have hf2 := hide (hBr.out.trans (hb2.mono hBr.out.size))
       obtain ⟨r1, d1⟩ : ∃ r, Hid (inN S x0 = r) := ⟨_, rfl⟩
       obtain ⟨r2, d2⟩ : ∃ r, Hid (inN S x2 = r) := ⟨_, rfl⟩
       obtain ⟨r3, d3⟩ : ∃ r, Hid (inN L x1 = r) := ⟨_, rfl⟩
       have hpr : Hid (p ⟨x0, x1, x2⟩ = (r1 && r2 && r3)) := by show _ = _; rw [hpx.out, d1.out, d2.out, d3.out]
       have hSb : S ≤ 400 := by have := e2.out; simp [inC] at this; omega
       have hLb : 1 ≤ L ∧ L ≤ 8 := by have := e1.out; simp [inC] at this; omega
       obtain ⟨hL1, hL2⟩ := hLb
       clear hx hc hcc hb2 hB2 hk2 hb0r
       cases r1
       ·go_wp2_with (go_at_call 58; refine (within_any _ _ _ _).mono ?_; rintro e w' ⟨rfl, rfl⟩; rw [inC_inN]; first | rw [d1.out] | rw [d2.out] | rw [d3.out])
        go_ret
        exact ⟨by rw [hok.out, hfal.out (by rw [hpr.out]; rfl)]; rfl, hf.out⟩
       ·cases r2
        ·go_wp2_with (go_at_call 58; refine (within_any _ _ _ _).mono ?_; rintro e w' ⟨rfl, rfl⟩; rw [inC_inN]; first | rw [d1.out] | rw [d2.out] | rw [d3.out])
         go_ret
         exact ⟨by rw [hok.out, hfal.out (by rw [hpr.out]; rfl)]; rfl, hf.out⟩
        ·cases r3
         ·go_wp2_with (go_at_call 58; refine (within_any _ _ _ _).mono ?_; rintro e w' ⟨rfl, rfl⟩; rw [inC_inN]; first | rw [d1.out] | rw [d2.out] | rw [d3.out])
          go_ret
          exact ⟨by rw [hok.out, hfal.out (by rw [hpr.out]; rfl)]; rfl, hf.out⟩
         ·go_wp2_with (go_at_call 58; refine (within_any _ _ _ _).mono ?_; rintro e w' ⟨rfl, rfl⟩; rw [inC_inN]; first | rw [d1.out] | rw [d2.out] | rw [d3.out])
          exact ⟨⟨k + 1, by go_num, by omega, hide (hall.out (by rw [hpr.out]; rfl)), hf2⟩, by simp [intOf]; omega⟩
      ·have hb0H := hide hb0r
       clear hb0r
       go_wp2_with fail
       go_ret
       have hAll := hA.out
       rw [List.take_of_length_le (by have := hnH.out; omega)] at hAll
       exact ⟨by rw [hok.out, hAll]; rfl, hb0H.out⟩
end Go.Proofs.YtakpmdmjbgipiaaGreatDoor
