/-
  Part XM of a proof.
-/
import Derived.Test.YtpmceapjnnkhjaaDoorPA
import Derived.Test.YtpmceapjnnkhjaaDoorXR
import Derived.Test.YtpmceapjnnkhjaaDoorXK
set_option maxHeartbeats 16000000
set_option maxRecDepth 100000
set_option linter.unusedVariables false
set_option linter.unusedSimpArgs false
namespace Go.Proofs.YtpmceapjnnkhjaaDoor
open Go.RowKit
set_option maxHeartbeats 16000000
set_option maxRecDepth 100000
theorem zero_box (w : World) : ∃ w4 wz, w.alloc (.cells #[.int .i64 0, .int .i64 0, .slice none 0 0, .slice none 0 0, .slice none 0 0] 25) = w4 ∧ set5 w4 w.heap.size (.int .i64 0) (.int .i64 0) (.slice none 0 0) (.slice none 0 0) (.slice none 0 0) = wz ∧ Blk w4 w.heap.size 25 #[.int .i64 0, .int .i64 0, .slice none 0 0, .slice none 0 0, .slice none 0 0] ∧ Blk wz w.heap.size 25 #[.int .i64 0, .int .i64 0, .slice none 0 0, .slice none 0 0, .slice none 0 0] ∧ Below w.heap.size w wz := by
 obtain ⟨w4, hw4, hb4, hB4, hk4⟩ := box_blk w #[.int .i64 0, .int .i64 0, .slice none 0 0, .slice none 0 0, .slice none 0 0] 25
 obtain ⟨wz, hwz, hBz, hKz⟩ := set5_facts hB4 (.int .i64 0) (.int .i64 0) (.slice none 0 0) (.slice none 0 0) (.slice none 0 0)
 exact ⟨w4, wz, hw4, hwz, hB4, hBz, hb4.trans (hKz.below hb4.size fun b hb e => by omega)⟩
theorem plain_acc {a : WA} (hok : a.ok = true) {t : List (List Nat)} {ac : List Bool} {Λ : List Nat → Bool} (hC : CanT a.L t ac Λ) (hac : ac.length ≤ 400) {v : List Nat} (hv : okW a.L v) : (plainW a.L t ac).ok = true ∧ (plainW a.L t ac).accV (natL v) = true ∧ (plainW a.L t ac).acc (natL v) = Λ v := by
 have h := (WA.ok_iff.1 hok).1
 have hmo : (plainW a.L t ac).ok = true := plainW_ok hC.ok (by unfold WA.L; omega) (by unfold WA.L; omega) hac
 obtain ⟨h1, h2⟩ := WA.acc_word hmo (u := v) (by rw [plainW_L]; exact hv)
 exact ⟨hmo, h1, by rw [h2, plainW_lang hC.ok hv]; exact hC.can.lang v hv⟩
theorem plain_small {a : WA} (hok : a.ok = true) {t : List (List Nat)} {ac : List Bool} (hac : ac.length ≤ 400) : (plainW a.L t ac).edges.length ≤ 3000000 ∧ (plainW a.L t ac).start.length ≤ 4000000 := by
 have h8 := (WA.ok_iff.1 hok).1
 have e1 : a.L ≤ 8 := by unfold WA.L; omega
 have e2 : ac.length * a.L ≤ 400 * 8 := Nat.mul_le_mul hac e1
 exact ⟨by rw [plainW_edges]; omega, by simp [plainW]⟩
theorem lawJoinMeans {vA vB : Value} {a b : WA} {w : World} {A : Option Addr} {c : Nat} {l : List Int} (hA : IsWA w w.heap.size vA a) (hB : IsWA w w.heap.size vB b) (hl : Sl w w.heap.size 1 encI A l) (hT : PowT w) :
  Calls Tryd.prog 15 #[vA, vB, .slice A l.length c] w (Ret fun v w' => v = .bool true ∧ Below w.heap.size w w') := by
 have hAH := hide hA
 have hBH := hide hB
 obtain ⟨A1, c1, A2, c2, A3, c3, rfl, -⟩ := hA
 obtain ⟨B1, d1, B2, d2, B3, d3, rfl, -⟩ := hB
 obtain ⟨w1, hw1, hb1, hB1, hk1⟩ := box_blk w #[.int .i64 a.letters, .int .i64 a.states, .slice A1 a.start.length c1, .slice A2 a.accept.length c2, .slice A3 a.edges.length c3] 25
 obtain ⟨w2, hw2, hb2, hB2, hk2⟩ := box_blk w1 #[.int .i64 b.letters, .int .i64 b.states, .slice B1 b.start.length d1, .slice B2 b.accept.length d2, .slice B3 b.edges.length d3] 25
 have s1 := hb1.size
 have b02 := hide (hb1.trans (hb2.mono s1))
 have hBa2 := hide (hB1.below hb2)
 have hBb2 := hide hB2
 have hTH := hide hT
 have hlH := hide hl
 have hln := hl.1
 have f1 := hBa2.out.cell
 have f2 := hBb2.out.cell
 have hbig := Big_any (hAH.out.keep (w' := w2) (fun p hp => b02.out.cell hp) b02.out.size)
 obtain ⟨n, hn⟩ : ∃ n, n = l.length := ⟨_, rfl⟩
 have hnH := hide hn
 rw [← hn] at hln ⊢
 clear hk1 hk2 hb1 hb2 hB1 hB2 hT hl hn
 go_enter Tryd.func15, Tryd.ntmps15
 go_wp2_with fail
 refine Calls.ret hbig ?_
 rintro r w3 ⟨rfl, hb3⟩
 have b03 := hide (b02.out.trans (hb3.mono b02.out.size))
 have hBa3 := hide (hBa2.out.below (hb3.mono (Nat.le_refl _)))
 have hBb3 := hide (hBb2.out.below (hb3.mono (Nat.le_refl _)))
 have f3 := hBb3.out.cell
 have f4 := hBa3.out.cell
 clear hbig hb3 f1 f2
 cases hbg : a.big with
 | true =>
  have hkn := known_any (hTH.out.below b03.out)
  go_wp2_with fail
  refine Calls.ret hkn ?_
  rintro r wk ⟨rfl, hbk⟩
  have hbK := hide (b03.out.trans (hbk.mono b03.out.size))
  clear hkn hbk
  go_wp2_with fail
  go_ret
  exact ⟨rfl, hbK.out⟩
 | false =>
  obtain ⟨g1, g2, g3⟩ := WA.big_not hbg
  have hbig := Big_any (hBH.out.keep (w' := w3) (fun p hp => b03.out.cell hp) b03.out.size)
  clear hbg
  go_wp2_with fail
  refine Calls.ret hbig ?_
  rintro r w4 ⟨rfl, hb4⟩
  have b04 := hide (b03.out.trans (hb4.mono b03.out.size))
  have hBa4 := hide (hBa3.out.below (hb4.mono (Nat.le_refl _)))
  have hBb4 := hide (hBb3.out.below (hb4.mono (Nat.le_refl _)))
  have f1 := hBa4.out.cell
  have f2 := hBb4.out.cell
  clear hbig hb4 f3 f4
  cases hbg : b.big with
  | true =>
   have hkn := known_any (hTH.out.below b04.out)
   go_wp2_with fail
   refine Calls.ret hkn ?_
   rintro r wk ⟨rfl, hbk⟩
   have hbK := hide (b04.out.trans (hbk.mono b04.out.size))
   clear hkn hbk
   go_wp2_with fail
   go_ret
   exact ⟨rfl, hbK.out⟩
  | false =>
   obtain ⟨k1, k2, k3⟩ := WA.big_not hbg
   clear hbg
   by_cases hlen : 100 < n
   ·clear f1 f2
    have hkn := known_any (hTH.out.below b04.out)
    go_wp2_with fail
    refine Calls.ret hkn ?_
    rintro r wk ⟨rfl, hbk⟩
    have hbK := hide (b04.out.trans (hbk.mono b04.out.size))
    clear hkn hbk
    go_wp2_with fail
    go_ret
    exact ⟨rfl, hbK.out⟩
   ·have hun := union_any (hAH.out.keep (w' := w4) (fun p hp => b04.out.cell hp) b04.out.size) (hBH.out.keep (w' := w4) (fun p hp => b04.out.cell hp) b04.out.size) (by omega) (by omega) (by omega) (by omega) (hTH.out.below b04.out)
    have e1 : a.edges.length ≤ 3000000 := by omega
    have e2 : b.edges.length ≤ 3000000 := by omega
    have e3 : a.start.length ≤ 4000000 := by omega
    have e4 : b.start.length ≤ 4000000 := by omega
    have hE := hide (And.intro (And.intro e1 e3) (And.intro e2 e4))
    clear g1 g2 g3 k1 k2 k3 e1 e2 e3 e4
    go_wp2_with fail
    refine Calls.ret hun ?_
    rintro r w5 ⟨hb5, hcase⟩
    have b05 := hide (b04.out.trans (hb5.mono b04.out.size))
    have hBa5 := hide (hBa4.out.below (hb5.mono (Nat.le_refl _)))
    have hBb5 := hide (hBb4.out.below (hb5.mono (Nat.le_refl _)))
    clear hun hb5 f1 f2
    have hin := hide (fun (wx : World) (hb : Below w.heap.size w wx) => inter_any (hAH.out.keep (w' := wx) (fun p hp => hb.cell hp) hb.size) (hBH.out.keep (w' := wx) (fun p hp => hb.cell hp) hb.size) hE.out.1.1 hE.out.1.2 hE.out.2.1 hE.out.2.2 (hTH.out.below hb))
    have hac1 := hide (fun (wx : World) (hb : Below w.heap.size w wx) => Accepts_any (c := c) (hAH.out.keep (w' := wx) (fun p hp => hb.cell hp) hb.size) hE.out.1.1 hE.out.1.2 (hlH.out.keep (w' := wx) (fun p hp => hb.cell hp) (Nat.le_refl _)) hb.size)
    have hac2 := hide (fun (wx : World) (hb : Below w.heap.size w wx) => Accepts_any (c := c) (hBH.out.keep (w' := wx) (fun p hp => hb.cell hp) hb.size) hE.out.2.1 hE.out.2.2 (hlH.out.keep (w' := wx) (fun p hp => hb.cell hp) (Nat.le_refl _)) hb.size)
    rcases hcase with ⟨hbo, rfl⟩ | ⟨hbo, hbg, rfl⟩ | ⟨hbo, hnb, t, ac, d, hC, hac, rfl, hI⟩
    ·simp only [zero25, sn0]
     obtain ⟨w6, w7, hw6, hw7, hB6, hB7, hb7⟩ := zero_box w5
     have b07 := hide (b05.out.trans (hb7.mono b05.out.size))
     have i1 := hB6.frozen
     have i2 := hB6.lt
     have i3 := hB6.cell
     have i4 := ((hBa5.out.below (hb7.mono (Nat.le_refl _)))).cell
     have i5 := ((hBb5.out.below (hb7.mono (Nat.le_refl _)))).cell
     have hBa7 := hide (hBa5.out.below (hb7.mono (Nat.le_refl _)))
     have hBb7 := hide (hBb5.out.below (hb7.mono (Nat.le_refl _)))
     have hcall := hin.out w7 b07.out
     unfold set5 at hw7
     clear hB6 hB7 hb7
     go_wp2_with fail
     refine Calls.ret hcall ?_
     rintro r w8 ⟨hb8, hcase⟩
     have b08 := hide (b07.out.trans (hb8.mono b07.out.size))
     have hBa8 := hide (hBa7.out.below (hb8.mono (Nat.le_refl _)))
     have hBb8 := hide (hBb7.out.below (hb8.mono (Nat.le_refl _)))
     clear hcall hb8 i1 i2 i3 i4 i5
     obtain rfl : r = .tuple #[.agg zero25, .int .i64 1] := by
      rcases hcase with ⟨-, h⟩ | ⟨h, -⟩ | ⟨h, -⟩ <;> first | exact h | (rw [hbo] at h; cases h)
     simp only [zero25, sn0]
     obtain ⟨w9, w10, hw9, hw10, hB9, hB10, hb10⟩ := zero_box w8
     have b010 := hide (b08.out.trans (hb10.mono b08.out.size))
     have i1 := hB9.frozen
     have i2 := hB9.lt
     have i3 := hB9.cell
     have i4 := ((hBa8.out.below (hb10.mono (Nat.le_refl _)))).cell
     have hBb10 := hide (hBb8.out.below (hb10.mono (Nat.le_refl _)))
     have hcall := hac1.out w10 b010.out
     rw [← hnH.out] at hcall
     unfold set5 at hw10
     unfold WA.accR at hcall
     generalize a.acc l = x1 at hcall
     generalize errno (a.accV l) = e1 at hcall
     clear hB9 hB10 hb10
     go_wp2_with fail
     refine Calls.ret hcall ?_
     rintro r w11 ⟨rfl, hb11⟩
     have b011 := hide (b010.out.trans (hb11.mono b010.out.size))
     have j4 := ((hBb10.out.below (hb11.mono (Nat.le_refl _)))).cell
     clear hcall hb11 i1 i2 i3 i4
     have hcall := hac2.out w11 b011.out
     rw [← hnH.out] at hcall
     unfold WA.accR at hcall
     generalize b.acc l = x2 at hcall
     generalize errno (b.accV l) = e2 at hcall
     go_wp2_with fail
     refine Calls.ret hcall ?_
     rintro r w12 ⟨rfl, hb12⟩
     have b012 := hide (b011.out.trans (hb12.mono b011.out.size))
     clear hcall hb12 j4
     have hkn := known_any (hTH.out.below b012.out)
     go_wp2_with fail
     refine Calls.ret hkn ?_
     rintro r wk ⟨rfl, hbk⟩
     have hbK := hide (b012.out.trans (hbk.mono b012.out.size))
     clear hkn hbk
     go_wp2_with fail
     go_ret
     exact ⟨rfl, hbK.out⟩
    ·simp only [zero25, sn0]
     obtain ⟨w6, w7, hw6, hw7, hB6, hB7, hb7⟩ := zero_box w5
     have b07 := hide (b05.out.trans (hb7.mono b05.out.size))
     have i1 := hB6.frozen
     have i2 := hB6.lt
     have i3 := hB6.cell
     have i4 := ((hBa5.out.below (hb7.mono (Nat.le_refl _)))).cell
     have i5 := ((hBb5.out.below (hb7.mono (Nat.le_refl _)))).cell
     have hBa7 := hide (hBa5.out.below (hb7.mono (Nat.le_refl _)))
     have hBb7 := hide (hBb5.out.below (hb7.mono (Nat.le_refl _)))
     have hcall := hin.out w7 b07.out
     unfold set5 at hw7
     clear hB6 hB7 hb7
     go_wp2_with fail
     refine Calls.ret hcall ?_
     rintro r w8 ⟨hb8, hcase⟩
     have b08 := hide (b07.out.trans (hb8.mono b07.out.size))
     have hBa8 := hide (hBa7.out.below (hb8.mono (Nat.le_refl _)))
     have hBb8 := hide (hBb7.out.below (hb8.mono (Nat.le_refl _)))
     clear hcall hb8 i1 i2 i3 i4 i5
     obtain rfl : r = .tuple #[.agg zero25, .int .i64 4] := by
      rcases hcase with ⟨h, -⟩ | ⟨-, -, h⟩ | ⟨-, h, -⟩ <;> first | exact h | exact (h hbg).elim | (rw [hbo] at h; cases h)
     simp only [zero25, sn0]
     obtain ⟨w9, w10, hw9, hw10, hB9, hB10, hb10⟩ := zero_box w8
     have b010 := hide (b08.out.trans (hb10.mono b08.out.size))
     have i1 := hB9.frozen
     have i2 := hB9.lt
     have i3 := hB9.cell
     have i4 := ((hBa8.out.below (hb10.mono (Nat.le_refl _)))).cell
     have hBb10 := hide (hBb8.out.below (hb10.mono (Nat.le_refl _)))
     have hcall := hac1.out w10 b010.out
     rw [← hnH.out] at hcall
     unfold set5 at hw10
     unfold WA.accR at hcall
     generalize a.acc l = x1 at hcall
     generalize errno (a.accV l) = e1 at hcall
     clear hB9 hB10 hb10
     go_wp2_with fail
     refine Calls.ret hcall ?_
     rintro r w11 ⟨rfl, hb11⟩
     have b011 := hide (b010.out.trans (hb11.mono b010.out.size))
     have j4 := ((hBb10.out.below (hb11.mono (Nat.le_refl _)))).cell
     clear hcall hb11 i1 i2 i3 i4
     have hcall := hac2.out w11 b011.out
     rw [← hnH.out] at hcall
     unfold WA.accR at hcall
     generalize b.acc l = x2 at hcall
     generalize errno (b.accV l) = e2 at hcall
     go_wp2_with fail
     refine Calls.ret hcall ?_
     rintro r w12 ⟨rfl, hb12⟩
     have b012 := hide (b011.out.trans (hb12.mono b011.out.size))
     clear hcall hb12 j4
     have hkn := known_any (hTH.out.below b012.out)
     go_wp2_with fail
     refine Calls.ret hkn ?_
     rintro r wk ⟨rfl, hbk⟩
     have hbK := hide (b012.out.trans (hbk.mono b012.out.size))
     clear hkn hbk
     go_wp2_with fail
     go_ret
     exact ⟨rfl, hbK.out⟩
    ·obtain ⟨oka, okb, hle⟩ := WA.both_iff.1 hbo
     have hsm := plain_small oka (t := t) hac
     have hplA := hide (fun (v : List Nat) (hv : okW a.L v) => plain_acc oka hC hac hv)
     obtain ⟨m, hm⟩ : ∃ m, m = plainW a.L t ac := ⟨_, rfl⟩
     rw [← hm] at hI hsm hplA
     have hsmH := hide hsm
     obtain ⟨E1, h1, E2, h2, E3, h3, rfl, -⟩ := hI w5 (Kept.refl _ _)
     obtain ⟨w6, hw6, hb6, hB6, hk6⟩ := box_blk w5 #[.int .i64 m.letters, .int .i64 m.states, .slice E1 m.start.length h1, .slice E2 m.accept.length h2, .slice E3 m.edges.length h3] 25
     have b06 := hide (b05.out.trans (hb6.mono b05.out.size))
     have hI6 := hide ((hI w5 (Kept.refl _ _)).keep (w' := w6) (fun p hp => hb6.cell hp) hb6.size)
     have hBa6 := hide (hBa5.out.below (hb6.mono (Nat.le_refl _)))
     have hBb6 := hide (hBb5.out.below (hb6.mono (Nat.le_refl _)))
     have hBm6 := hide hB6
     have i4 := hBa6.out.cell
     have i5 := hBb6.out.cell
     have hokaH := hide oka
     have hokbH := hide okb
     have hleH := hide hle
     have hboH := hide hbo
     have hnbH := hide hnb
     have hcall := hin.out w6 b06.out
     clear oka okb hle hsm hm hI hb6 hB6 hk6 hbo hnb hC hac
     go_wp2_with fail
     refine Calls.ret hcall ?_
     rintro r w8 ⟨hb8, hcase⟩
     have b08 := hide (b06.out.trans (hb8.mono b06.out.size))
     have hI8 := hide (hI6.out.keep (w' := w8) (fun p hp => hb8.cell hp) hb8.size)
     have hBa8 := hide (hBa6.out.below (hb8.mono (Nat.le_refl _)))
     have hBb8 := hide (hBb6.out.below (hb8.mono (Nat.le_refl _)))
     have hBm8 := hide (hBm6.out.below (hb8.mono (Nat.le_refl _)))
     clear hcall hb8 i4 i5
     rcases hcase with ⟨h, -⟩ | ⟨-, h, -⟩ | ⟨-, -, t2, ac2, d2, hC2, hac2, rfl, hI2⟩
     ·rw [hboH.out] at h; cases h
     ·exact (hnbH.out h).elim
     have hsm := plain_small hokaH.out (t := t2) hac2
     have hplB := hide (fun (v : List Nat) (hv : okW a.L v) => plain_acc hokaH.out hC2 hac2 hv)
     obtain ⟨m2, hm⟩ : ∃ m2, m2 = plainW a.L t2 ac2 := ⟨_, rfl⟩
     rw [← hm] at hI2 hsm hplB
     have hsm2H := hide hsm
     obtain ⟨G1, k1, G2, k2, G3, k3, rfl, -⟩ := hI2 w8 (Kept.refl _ _)
     obtain ⟨w9, hw9, hb9, hB9, hk9⟩ := box_blk w8 #[.int .i64 m2.letters, .int .i64 m2.states, .slice G1 m2.start.length k1, .slice G2 m2.accept.length k2, .slice G3 m2.edges.length k3] 25
     have b09 := hide (b08.out.trans (hb9.mono b08.out.size))
     have hI9 := hide (hI8.out.keep (w' := w9) (fun p hp => hb9.cell hp) hb9.size)
     have hJ9 := hide ((hI2 w8 (Kept.refl _ _)).keep (w' := w9) (fun p hp => hb9.cell hp) hb9.size)
     have hBa9 := hide (hBa8.out.below (hb9.mono (Nat.le_refl _)))
     have hBb9 := hide (hBb8.out.below (hb9.mono (Nat.le_refl _)))
     have hBm9 := hide (hBm8.out.below (hb9.mono (Nat.le_refl _)))
     have hBn9 := hide hB9
     have i4 := hBa9.out.cell
     have hcall := hac1.out w9 b09.out
     rw [← hnH.out] at hcall
     unfold WA.accR at hcall
     clear hsm hm hI2 hb9 hB9 hk9 hC2 hac2
     rcases a.acc_cases hokaH.out l with ⟨q1, q2⟩ | ⟨v, hlv, hv, q1, q2⟩
     ·rw [q1, q2, show errno false = 1 from rfl] at hcall
      clear q1 q2
      go_wp2_with fail
      refine Calls.ret hcall ?_
      rintro r w11 ⟨rfl, hb11⟩
      have b011 := hide (b09.out.trans (hb11.mono b09.out.size))
      have j4 := ((hBb9.out.below (hb11.mono (Nat.le_refl _)))).cell
      clear hcall hb11 i4
      have hcall := hac2.out w11 b011.out
      rw [← hnH.out] at hcall
      unfold WA.accR at hcall
      generalize b.acc l = x2 at hcall
      generalize errno (b.accV l) = e2 at hcall
      go_wp2_with fail
      refine Calls.ret hcall ?_
      rintro r w12 ⟨rfl, hb12⟩
      have b012 := hide (b011.out.trans (hb12.mono b011.out.size))
      clear hcall hb12 j4
      have hkn := known_any (hTH.out.below b012.out)
      go_wp2_with fail
      refine Calls.ret hkn ?_
      rintro r wk ⟨rfl, hbk⟩
      have hbK := hide (b012.out.trans (hbk.mono b012.out.size))
      clear hkn hbk
      go_wp2_with fail
      go_ret
      exact ⟨rfl, hbK.out⟩
     ·have hvH := hide hv
      have hLb : okW b.L v := by
       have : b.L = a.L := by unfold WA.L; rw [hleH.out]
       rw [this]; exact hv
      obtain ⟨r1, r2⟩ := WA.acc_word hokbH.out hLb
      obtain ⟨-, u1, u2⟩ := hplA.out v hv
      obtain ⟨-, v1, v2⟩ := hplB.out v hv
      rw [q1, q2, show errno true = 0 from rfl] at hcall
      have hbr : Hid (b.accR l = .tuple #[.bool (b.lang v), .int .i64 0]) := by show _ = _; unfold WA.accR; rw [hlv, r1, r2]; rfl
      have hur : Hid (m.accR l = .tuple #[.bool (a.lang v || b.lang v), .int .i64 0]) := by show _ = _; unfold WA.accR; rw [hlv, u1, u2]; rfl
      have hir : Hid (m2.accR l = .tuple #[.bool (a.lang v && b.lang v), .int .i64 0]) := by show _ = _; unfold WA.accR; rw [hlv, v1, v2]; rfl
      clear q1 q2 r1 r2 u1 u2 v1 v2 hLb hv
      generalize a.lang v = x at *
      generalize b.lang v = y at *
      go_wp2_with fail
      refine Calls.ret hcall ?_
      rintro r w11 ⟨rfl, hb11⟩
      have b011 := hide (b09.out.trans (hb11.mono b09.out.size))
      have hI11 := hide (hI9.out.keep (w' := w11) (fun p hp => hb11.cell hp) hb11.size)
      have hJ11 := hide (hJ9.out.keep (w' := w11) (fun p hp => hb11.cell hp) hb11.size)
      have hBm11 := hide (hBm9.out.below (hb11.mono (Nat.le_refl _)))
      have hBn11 := hide (hBn9.out.below (hb11.mono (Nat.le_refl _)))
      have j4 := ((hBb9.out.below (hb11.mono (Nat.le_refl _)))).cell
      clear hcall hb11 i4
      have hcall := hac2.out w11 b011.out
      rw [← hnH.out, hbr.out] at hcall
      go_wp2_with fail
      refine Calls.ret hcall ?_
      rintro r w12 ⟨rfl, hb12⟩
      have b012 := hide (b011.out.trans (hb12.mono b011.out.size))
      have hI12 := hide (hI11.out.keep (w' := w12) (fun p hp => hb12.cell hp) hb12.size)
      have hJ12 := hide (hJ11.out.keep (w' := w12) (fun p hp => hb12.cell hp) hb12.size)
      have hBm12 := hide (hBm11.out.below (hb12.mono (Nat.le_refl _)))
      have hBn12 := hide (hBn11.out.below (hb12.mono (Nat.le_refl _)))
      clear hcall hb12 j4
      have j4 := hBm12.out.cell
      have hcall := Accepts_any (c := c) hI12.out hsmH.out.1 hsmH.out.2 (hlH.out.keep (w' := w12) (fun p hp => b012.out.cell hp) (Nat.le_refl _)) b012.out.size
      rw [← hnH.out, hur.out] at hcall
      go_wp2_with fail
      refine Calls.ret hcall ?_
      rintro r w13 ⟨rfl, hb13⟩
      have b013 := hide (b012.out.trans (hb13.mono b012.out.size))
      have hJ13 := hide (hJ12.out.keep (w' := w13) (fun p hp => hb13.cell hp) hb13.size)
      have hBn13 := hide (hBn12.out.below (hb13.mono (Nat.le_refl _)))
      clear hcall hb13 j4
      have j4 := hBn13.out.cell
      have hcall := Accepts_any (c := c) hJ13.out hsm2H.out.1 hsm2H.out.2 (hlH.out.keep (w' := w13) (fun p hp => b013.out.cell hp) (Nat.le_refl _)) b013.out.size
      rw [← hnH.out, hir.out] at hcall
      go_wp2_with fail
      refine Calls.ret hcall ?_
      rintro r w14 ⟨rfl, hb14⟩
      have b014 := hide (b013.out.trans (hb14.mono b013.out.size))
      clear hcall hb14 j4
      cases x <;> cases y
      all_goals
       have hkn := known_any (hTH.out.below b014.out)
       go_wp2_with fail
       refine Calls.ret hkn ?_
       rintro r wk ⟨rfl, hbk⟩
       have hbK := hide (b014.out.trans (hbk.mono b014.out.size))
       clear hkn hbk
       go_wp2_with fail
       go_ret
       exact ⟨rfl, hbK.out⟩
end Go.Proofs.YtpmceapjnnkhjaaDoor
