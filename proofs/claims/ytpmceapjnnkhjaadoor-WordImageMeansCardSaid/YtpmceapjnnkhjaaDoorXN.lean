/-
  Part XN of a proof.
-/
import Derived.Test.YtpmceapjnnkhjaaDoorPA
import Derived.Test.YtpmceapjnnkhjaaDoorXJ
import Derived.Test.YtpmceapjnnkhjaaDoorXH
import Derived.Test.YtpmceapjnnkhjaaDoorXM
set_option maxHeartbeats 16000000
set_option maxRecDepth 100000
set_option linter.unusedVariables false
set_option linter.unusedSimpArgs false
namespace Go.Proofs.YtpmceapjnnkhjaaDoor
open Go.RowKit
set_option maxHeartbeats 16000000
set_option maxRecDepth 100000
theorem im_more {t : TR} {a : WA} (hb : t.both a = true) {U V : List Int} (h1 : a.accV U = true) (h2 : a.acc U = true) (h3 : (t.relV U V && decide (U.length = V.length) && t.rel U V) = true) : ∃ v, V = natL v ∧ okW a.L v ∧ (prW t a).lang v = true := by
 obtain ⟨tok, aok, hLe⟩ := TR.both_iff.1 hb
 have tbd := (TR.ok_iff.1 tok).1
 have tin := (TR.ok_iff.1 tok).2
 have abd := (WA.ok_iff.1 aok).1
 rw [Bool.and_eq_true, Bool.and_eq_true, decide_eq_true_eq] at h3
 obtain ⟨⟨h3, h4⟩, h5⟩ := h3
 unfold TR.relV at h3
 rw [Bool.and_eq_true, Bool.and_eq_true] at h3
 obtain ⟨⟨-, h6⟩, h7⟩ := h3
 obtain ⟨u, rfl, hu⟩ := all_word h6
 obtain ⟨v, rfl, hv⟩ := all_word h7
 have hL : t.letters.toNat = a.L := by unfold WA.L; rw [hLe]
 rw [hL] at hu hv
 have hlu : a.lang u = true := by
  unfold WA.acc at h2
  rw [Bool.and_eq_true, natL_toNat] at h2
  exact h2.2
 refine ⟨v, rfl, hv, ?_⟩
 exact (prW_img tbd.2.2.1 abd.2.2.1 hLe.symm).lang tin hu (by unfold TR.L; rw [hL]; exact hv) (by simpa [natL] using h4) hlu h5
theorem lawImageMeans {vt vA : Value} {t : TR} {a : WA} {w : World} {AU AV : Option Addr} {cU cV : Nat} {U V : List Int} (ht : IsTR w w.heap.size vt t) (hA : IsWA w w.heap.size vA a) (hU : Sl w w.heap.size 1 encI AU U) (hV : Sl w w.heap.size 1 encI AV V) (hT : PowT w) :
    Calls Tryd.prog 16 #[vt, vA, .agg #[.slice AU U.length cU, .slice AV V.length cV]] w (Ret fun v w' => v = .bool true ∧ Below w.heap.size w w') := by
  have htH := hide ht
  have hAH := hide hA
  have hUH := hide hU
  have hVH := hide hV
  have hTH := hide hT
  obtain ⟨A1, c1, A2, c2, A3, c3, rfl, p1, p2, p3, -⟩ := ht
  obtain ⟨B1, d1, B2, d2, B3, d3, rfl, q1, q2, q3, -⟩ := hA
  have l1 := p1.1
  have l2 := p2.1
  have l3 := p3.1
  have l4 := q1.1
  have l5 := q2.1
  have l6 := q3.1
  have l7 := hU.1
  have l8 := hV.1
  obtain ⟨w1, hw1, hb1, hB1, -⟩ := box_blk w #[.int .i64 t.letters, .int .i64 t.states, .slice A1 t.start.length c1, .slice A2 t.accept.length c2, .slice A3 t.moves.length c3] 45
  obtain ⟨w2, hw2, hb2, hB2, -⟩ := box_blk w1 #[.int .i64 a.letters, .int .i64 a.states, .slice B1 a.start.length d1, .slice B2 a.accept.length d2, .slice B3 a.edges.length d3] 25
  obtain ⟨w3, hw3, hb3, hB3, -⟩ := box_blk w2 #[.slice AU U.length cU, .slice AV V.length cV] 59
  have s1 := hb1.size
  have s2 := hb2.size
  have b03 := hide (hb1.trans ((hb2.mono s1).trans (hb3.mono (by omega))))
  have hX3 := hide ((hB1.below hb2).below hb3)
  have hY3 := hide (hB2.below hb3)
  have hZ3 := hide hB3
  have fx := hX3.out.cell
  have fy := hY3.out.cell
  have fz := hZ3.out.cell
  have hheavy := heavy_any (htH.out.keep (w' := w3) (fun p hp => b03.out.cell hp) b03.out.size)
  have hbigH := hide (fun (wx : World) (hb : Below w.heap.size w wx) => Big_any (hAH.out.keep (w' := wx) (fun p hp => hb.cell hp) hb.size))
  have hknH := hide (fun (wx : World) (hb : Below w.heap.size w wx) => known_any (hTH.out.below hb))
  have himgH := hide (fun (wx : World) (hb : Below w.heap.size w wx) => Image_any (htH.out.keep (w' := wx) (fun p hp => hb.cell hp) hb.size) (hAH.out.keep (w' := wx) (fun p hp => hb.cell hp) hb.size) (hTH.out.below hb))
  have haccH := hide (fun (wx : World) (hb : Below w.heap.size w wx) => Accepts_any (c := cU) (hAH.out.keep (w' := wx) (fun p hp => hb.cell hp) hb.size) (l := U) (B := w.heap.size) (A := AU))
  have hrelH := hide (fun (wx : World) (hb : Below w.heap.size w wx) => Relates_any (c := cU) (c' := cV) (htH.out.keep (w' := wx) (fun p hp => hb.cell hp) hb.size) (hUH.out.keep (w' := wx) (fun p hp => hb.cell hp) (Nat.le_refl _)) (hVH.out.keep (w' := wx) (fun p hp => hb.cell hp) (Nat.le_refl _)) hb.size hb.size)
  obtain ⟨n1, hn1⟩ : ∃ n, n = t.start.length := ⟨_, rfl⟩
  obtain ⟨n2, hn2⟩ : ∃ n, n = t.accept.length := ⟨_, rfl⟩
  obtain ⟨n3, hn3⟩ : ∃ n, n = t.moves.length := ⟨_, rfl⟩
  obtain ⟨n4, hn4⟩ : ∃ n, n = a.start.length := ⟨_, rfl⟩
  obtain ⟨n5, hn5⟩ : ∃ n, n = a.accept.length := ⟨_, rfl⟩
  obtain ⟨n6, hn6⟩ : ∃ n, n = a.edges.length := ⟨_, rfl⟩
  obtain ⟨n7, hn7⟩ : ∃ n, n = U.length := ⟨_, rfl⟩
  obtain ⟨n8, hn8⟩ : ∃ n, n = V.length := ⟨_, rfl⟩
  have hnsH := hide (And.intro hn1 (And.intro hn2 (And.intro hn3 (And.intro hn4 (And.intro hn5 (And.intro hn6 (And.intro hn7 hn8)))))))
  rw [← hn1] at l1 hX3 fx hw1 ⊢
  rw [← hn2] at l2 hX3 fx hw1 ⊢
  rw [← hn3] at l3 hX3 fx hw1 ⊢
  rw [← hn4] at l4 hY3 fy hw2 ⊢
  rw [← hn5] at l5 hY3 fy hw2 ⊢
  rw [← hn6] at l6 hY3 fy hw2 ⊢
  rw [← hn7] at l7 hZ3 fz hw3 ⊢
  rw [← hn8] at l8 hZ3 fz hw3 ⊢
  rw [← hn1, ← hn2, ← hn3] at hheavy
  clear hn1 hn2 hn3 hn4 hn5 hn6 hn7 hn8 hb1 hB1 hb2 hB2 hb3 hB3 hU hV hT p1 p2 p3 q1 q2 q3
  go_enter Tryd.func16, Tryd.ntmps16
  go_wp2_with fail
  refine Calls.ret hheavy ?_
  rintro r w4 ⟨rfl, hb4⟩
  have b04 := hide (b03.out.trans (hb4.mono b03.out.size))
  have hX4 := hide (hX3.out.below (hb4.mono (Nat.le_refl _)))
  have hY4 := hide (hY3.out.below (hb4.mono (Nat.le_refl _)))
  have hZ4 := hide (hZ3.out.below (hb4.mono (Nat.le_refl _)))
  have gx := hX4.out.cell
  have gy := hY4.out.cell
  have gz := hZ4.out.cell
  clear hheavy hb4 fx fy fz
  cases hhv : t.heavy with
  | true =>
    have hkn := hknH.out _ b04.out
    go_wp2_with fail
    refine Calls.ret hkn ?_
    rintro r wk ⟨rfl, hbk⟩
    have hbK := hide (b04.out.trans (hbk.mono b04.out.size))
    clear hkn hbk
    go_wp2_with fail
    go_ret
    exact ⟨rfl, hbK.out⟩
  | false =>
    have hv600 : n1 ≤ 600 ∧ n2 ≤ 600 ∧ n3 ≤ 600 := by
      have h := hnsH.out
      unfold TR.heavy at hhv
      simp only [Bool.or_eq_false_iff, decide_eq_false_iff_not] at hhv
      omega
    clear hhv
    have hbig := hbigH.out w4 b04.out
    obtain ⟨e4, e5, e6⟩ := And.intro hnsH.out.2.2.2.1 (And.intro hnsH.out.2.2.2.2.1 hnsH.out.2.2.2.2.2.1)
    rw [← e4, ← e5, ← e6] at hbig
    clear e4 e5 e6
    go_wp2_with fail
    refine Calls.ret hbig ?_
    rintro r w5 ⟨rfl, hb5⟩
    have b05 := hide (b04.out.trans (hb5.mono b04.out.size))
    have hX5 := hide (hX4.out.below (hb5.mono (Nat.le_refl _)))
    have hY5 := hide (hY4.out.below (hb5.mono (Nat.le_refl _)))
    have hZ5 := hide (hZ4.out.below (hb5.mono (Nat.le_refl _)))
    have kx := hX5.out.cell
    have ky := hY5.out.cell
    have kz := hZ5.out.cell
    clear hbig hb5 gx gy gz
    cases hbg : a.big with
    | true =>
      have hkn := hknH.out _ b05.out
      go_wp2_with fail
      refine Calls.ret hkn ?_
      rintro r wk ⟨rfl, hbk⟩
      have hbK := hide (b05.out.trans (hbk.mono b05.out.size))
      clear hkn hbk
      go_wp2_with fail
      go_ret
      exact ⟨rfl, hbK.out⟩
    | false =>
      have hb600 : n4 ≤ 600 ∧ n5 ≤ 600 ∧ n6 ≤ 1000 := by
        have h := hnsH.out
        have h2 := WA.big_not hbg
        omega
      clear hbg
      obtain ⟨v1, v2, v3⟩ := hv600
      obtain ⟨v4, v5, v6⟩ := hb600
      have x1 : n3 * n6 ≤ 600 * 1000 := Nat.mul_le_mul v3 v6
      have x2 : n1 * n4 ≤ 600 * 600 := Nat.mul_le_mul v1 v4
      have x3 : n2 * n5 ≤ 600 * 600 := Nat.mul_le_mul v2 v5
      by_cases g1 : (50 : Int) < (n7 : Int)
      · clear x1 x2 x3
        have hkn := hknH.out _ b05.out
        go_wp2_with fail
        refine Calls.ret hkn ?_
        rintro r wk ⟨rfl, hbk⟩
        have hbK := hide (b05.out.trans (hbk.mono b05.out.size))
        clear hkn hbk
        go_wp2_with fail
        go_ret
        exact ⟨rfl, hbK.out⟩
      · by_cases g2 : (50 : Int) < (n8 : Int)
        · clear x1 x2 x3
          have hkn := hknH.out _ b05.out
          go_wp2_with fail
          refine Calls.ret hkn ?_
          rintro r wk ⟨rfl, hbk⟩
          have hbK := hide (b05.out.trans (hbk.mono b05.out.size))
          clear hkn hbk
          go_wp2_with fail
          go_ret
          exact ⟨rfl, hbK.out⟩
        · by_cases g3 : (20000 : Int) < (n3 : Int) * (n6 : Int)
          · clear x2 x3
            have hkn := hknH.out _ b05.out
            go_wp2_with fail
            refine Calls.ret hkn ?_
            rintro r wk ⟨rfl, hbk⟩
            have hbK := hide (b05.out.trans (hbk.mono b05.out.size))
            clear hkn hbk
            go_wp2_with fail
            go_ret
            exact ⟨rfl, hbK.out⟩
          · by_cases g4 : (2000 : Int) < (n1 : Int) * (n4 : Int)
            · clear x3
              have hkn := hknH.out _ b05.out
              go_wp2_with fail
              refine Calls.ret hkn ?_
              rintro r wk ⟨rfl, hbk⟩
              have hbK := hide (b05.out.trans (hbk.mono b05.out.size))
              clear hkn hbk
              go_wp2_with fail
              go_ret
              exact ⟨rfl, hbK.out⟩
            · by_cases g5 : (2000 : Int) < (n2 : Int) * (n5 : Int)
              · skip
                have hkn := hknH.out _ b05.out
                go_wp2_with fail
                refine Calls.ret hkn ?_
                rintro r wk ⟨rfl, hbk⟩
                have hbK := hide (b05.out.trans (hbk.mono b05.out.size))
                clear hkn hbk
                go_wp2_with fail
                go_ret
                exact ⟨rfl, hbK.out⟩
              · skip
                have himg := himgH.out w5 b05.out (by have := hnsH.out; omega) (by have := hnsH.out; omega) (by have := hnsH.out; omega) (by have := hnsH.out; omega) (by rw [← hnsH.out.1, ← hnsH.out.2.2.2.1]; omega) (by rw [← hnsH.out.2.1, ← hnsH.out.2.2.2.2.1]; omega) (by rw [← hnsH.out.2.2.1, ← hnsH.out.2.2.2.2.2.1]; omega) (by have := hnsH.out; omega) (by have := hnsH.out; omega)
                rw [← hnsH.out.1, ← hnsH.out.2.1, ← hnsH.out.2.2.1, ← hnsH.out.2.2.2.1, ← hnsH.out.2.2.2.2.1, ← hnsH.out.2.2.2.2.2.1] at himg
                have hE := hide (show a.edges.length ≤ 3000000 ∧ a.start.length ≤ 4000000 from by have := hnsH.out; omega)
                go_wp2_with fail
                refine Calls.ret himg ?_
                rintro r w6 ⟨hb6, hcase⟩
                have b06 := hide (b05.out.trans (hb6.mono b05.out.size))
                have hX6 := hide (hX5.out.below (hb6.mono (Nat.le_refl _)))
                have hY6 := hide (hY5.out.below (hb6.mono (Nat.le_refl _)))
                have hZ6 := hide (hZ5.out.below (hb6.mono (Nat.le_refl _)))
                clear himg hb6 kx ky kz x1 x2 x3 g1 g2 g3 g4 g5 v1 v2 v3 v4 v5 v6
                have hcase2 : (r = .tuple #[.agg zero25, .int .i64 1] ∨ r = .tuple #[.agg zero25, .int .i64 4]) ∨ (t.both a = true ∧ ∃ t' ac' v, CanT a.L t' ac' (prW t a).lang ∧ ac'.length ≤ 400 ∧ r = .tuple #[v, .int .i64 0] ∧ ∀ w'', Kept w6 w'' (fun k => k < w5.heap.size) → IsWA w'' w''.heap.size v (plainW a.L t' ac')) := by
                  rcases hcase with ⟨-, h⟩ | ⟨-, -, h⟩ | ⟨hb, -, -, h⟩
                  · exact .inl (.inl h)
                  · exact .inl (.inr h)
                  · exact .inr ⟨hb, h⟩
                clear hcase
                rcases hcase2 with (rfl | rfl) | ⟨hbo, t', ac', vi, hC, hac, rfl, hI⟩
                iterate 2
                  · simp only [zero25, sn0]
                    obtain ⟨w7, w8, hw7, hw8, hB7, hB8, hb8⟩ := zero_box w6
                    have b08 := hide (b06.out.trans (hb8.mono b06.out.size))
                    have i1 := hB7.frozen
                    have i2 := hB7.lt
                    have i3 := hB7.cell
                    have hX8 := hide (hX6.out.below (hb8.mono (Nat.le_refl _)))
                    have hY8 := hide (hY6.out.below (hb8.mono (Nat.le_refl _)))
                    have hZ8 := hide (hZ6.out.below (hb8.mono (Nat.le_refl _)))
                    have jx := hX8.out.cell
                    have jy := hY8.out.cell
                    have jz := hZ8.out.cell
                    have hacc := haccH.out w8 b08.out hE.out.1 hE.out.2 (hUH.out.keep (w' := w8) (fun p hp => b08.out.cell hp) (Nat.le_refl _)) b08.out.size
                    rw [← hnsH.out.2.2.2.1, ← hnsH.out.2.2.2.2.1, ← hnsH.out.2.2.2.2.2.1, ← hnsH.out.2.2.2.2.2.2.1] at hacc
                    unfold WA.accR at hacc
                    generalize a.acc U = x1 at hacc
                    generalize errno (a.accV U) = e1 at hacc
                    unfold set5 at hw8
                    clear hB7 hB8 hb8
                    go_wp2_with fail
                    refine Calls.ret hacc ?_
                    rintro r w9 ⟨rfl, hb9⟩
                    have b09 := hide (b08.out.trans (hb9.mono b08.out.size))
                    have hX9 := hide (hX8.out.below (hb9.mono (Nat.le_refl _)))
                    have hZ9 := hide (hZ8.out.below (hb9.mono (Nat.le_refl _)))
                    have mx := hX9.out.cell
                    have mz := hZ9.out.cell
                    have hrel := hrelH.out w9 b09.out
                    rw [← hnsH.out.1, ← hnsH.out.2.1, ← hnsH.out.2.2.1, ← hnsH.out.2.2.2.2.2.2.1, ← hnsH.out.2.2.2.2.2.2.2] at hrel
                    unfold TR.relR at hrel
                    generalize (t.relV U V && decide (U.length = V.length) && t.rel U V) = x2 at hrel
                    generalize errno (t.relV U V) = e2 at hrel
                    clear hacc hb9 i1 i2 i3 jx jy jz
                    go_wp2_with fail
                    refine Calls.ret hrel ?_
                    rintro r wA ⟨rfl, hbA⟩
                    have b0A := hide (b09.out.trans (hbA.mono b09.out.size))
                    clear hrel hbA mx mz
                    have hkn := hknH.out _ b0A.out
                    go_wp2_with fail
                    refine Calls.ret hkn ?_
                    rintro r wk ⟨rfl, hbk⟩
                    have hbK := hide (b0A.out.trans (hbk.mono b0A.out.size))
                    clear hkn hbk
                    go_wp2_with fail
                    go_ret
                    exact ⟨rfl, hbK.out⟩
                · obtain ⟨tok, aok, hLe⟩ := TR.both_iff.1 hbo
                  have hplain := hide (fun (v : List Nat) (hv : okW a.L v) => plain_acc aok hC hac hv)
                  have hsm := hide (plain_small aok (t := t') hac)
                  obtain ⟨mm, hmm⟩ : ∃ mm, mm = plainW a.L t' ac' := ⟨_, rfl⟩
                  rw [← hmm] at hI hplain hsm
                  have hboH := hide hbo
                  obtain ⟨E1, h1, E2, h2, E3, h3, rfl, -⟩ := hI w6 (Kept.refl _ _)
                  obtain ⟨w8, hw8, hb8, hB8, -⟩ := box_blk w6 #[.int .i64 mm.letters, .int .i64 mm.states, .slice E1 mm.start.length h1, .slice E2 mm.accept.length h2, .slice E3 mm.edges.length h3] 25
                  have b08 := hide (b06.out.trans (hb8.mono b06.out.size))
                  have hI8 := hide ((hI w6 (Kept.refl _ _)).keep (w' := w8) (fun p hp => hb8.cell hp) hb8.size)
                  have hM8 := hide hB8
                  have hX8 := hide (hX6.out.below (hb8.mono (Nat.le_refl _)))
                  have hY8 := hide (hY6.out.below (hb8.mono (Nat.le_refl _)))
                  have hZ8 := hide (hZ6.out.below (hb8.mono (Nat.le_refl _)))
                  have jx := hX8.out.cell
                  have jy := hY8.out.cell
                  have jz := hZ8.out.cell
                  have hacc := haccH.out w8 b08.out hE.out.1 hE.out.2 (hUH.out.keep (w' := w8) (fun p hp => b08.out.cell hp) (Nat.le_refl _)) b08.out.size
                  rw [← hnsH.out.2.2.2.1, ← hnsH.out.2.2.2.2.1, ← hnsH.out.2.2.2.2.2.1, ← hnsH.out.2.2.2.2.2.2.1] at hacc
                  unfold WA.accR at hacc
                  have hmore := hide (fun h1 h2 h3 => im_more (U := U) (V := V) hbo h1 h2 h3)
                  obtain ⟨x1, hx1⟩ : ∃ x, a.acc U = x := ⟨_, rfl⟩
                  obtain ⟨o1, ho1⟩ : ∃ x, a.accV U = x := ⟨_, rfl⟩
                  rw [hx1, ho1] at hacc
                  rw [hx1, ho1] at hmore
                  clear hmm hbo tok aok hLe hC hac hI hb8 hB8 hx1 ho1
                  go_wp2_with fail
                  refine Calls.ret hacc ?_
                  rintro r w9 ⟨rfl, hb9⟩
                  have b09 := hide (b08.out.trans (hb9.mono b08.out.size))
                  have hX9 := hide (hX8.out.below (hb9.mono (Nat.le_refl _)))
                  have hZ9 := hide (hZ8.out.below (hb9.mono (Nat.le_refl _)))
                  have hI9 := hide (hI8.out.keep (w' := w9) (fun p hp => hb9.cell hp) hb9.size)
                  have hM9 := hide (hM8.out.below hb9)
                  have mx := hX9.out.cell
                  have mz := hZ9.out.cell
                  have hrel := hrelH.out w9 b09.out
                  rw [← hnsH.out.1, ← hnsH.out.2.1, ← hnsH.out.2.2.1, ← hnsH.out.2.2.2.2.2.2.1, ← hnsH.out.2.2.2.2.2.2.2] at hrel
                  unfold TR.relR at hrel
                  obtain ⟨x2, hx2⟩ : ∃ x, (t.relV U V && decide (U.length = V.length) && t.rel U V) = x := ⟨_, rfl⟩
                  obtain ⟨o2, ho2⟩ : ∃ x, t.relV U V = x := ⟨_, rfl⟩
                  rw [hx2] at hmore
                  rw [hx2, ho2] at hrel
                  clear hacc hb9 jx jy jz hx2 ho2
                  cases o1 <;> cases o2 <;> cases x1 <;> cases x2
                  all_goals
                    simp only [show errno false = 1 from rfl, show errno true = 0 from rfl] at hrel ⊢
                    go_wp2_with fail
                    refine Calls.ret hrel ?_
                    rintro r wA ⟨rfl, hbA⟩
                    have b0A := hide (b09.out.trans (hbA.mono b09.out.size))
                    have hIA := hide (hI9.out.keep (w' := wA) (fun p hp => hbA.cell hp) hbA.size)
                    have hMA := hide (hM9.out.below hbA)
                    have hZA := hide (hZ9.out.below (hbA.mono (Nat.le_refl _)))
                    clear hrel hbA mx mz
                    have oz := hZA.out.cell
                    have om := hMA.out.cell
                    first
                    | (obtain ⟨v, hVe, hv, hlv⟩ := hmore.out (by trivial) (by trivial) (by trivial)
                       obtain ⟨-, u1, u2⟩ := hplain.out v hv
                       have hur : Hid (mm.accR V = .tuple #[.bool true, .int .i64 0]) := by show _ = _; unfold WA.accR; rw [hVe, u1, u2, hlv]; rfl
                       have hfin := Accepts_any (c := cV) hIA.out hsm.out.1 hsm.out.2 (hVH.out.keep (w' := wA) (fun p hp => b0A.out.cell hp) (Nat.le_refl _)) b0A.out.size
                       rw [← hnsH.out.2.2.2.2.2.2.2, hur.out] at hfin
                       clear hVe hv hlv u1 u2
                       go_wp2_with fail
                       refine Calls.ret hfin ?_
                       rintro r wB ⟨rfl, hbB⟩
                       have b0B := hide (b0A.out.trans (hbB.mono b0A.out.size))
                       clear hfin hbB oz om
                       have hkn := hknH.out _ b0B.out
                       go_wp2_with fail
                       refine Calls.ret hkn ?_
                       rintro r wk ⟨rfl, hbk⟩
                       have hbK := hide (b0B.out.trans (hbk.mono b0B.out.size))
                       clear hkn hbk
                       go_wp2_with fail
                       go_ret
                       exact ⟨rfl, hbK.out⟩)
                    | (skip
                       have hkn := hknH.out _ b0A.out
                       go_wp2_with fail
                       refine Calls.ret hkn ?_
                       rintro r wk ⟨rfl, hbk⟩
                       have hbK := hide (b0A.out.trans (hbk.mono b0A.out.size))
                       clear hkn hbk
                       go_wp2_with fail
                       go_ret
                       exact ⟨rfl, hbK.out⟩)
end Go.Proofs.YtpmceapjnnkhjaaDoor
