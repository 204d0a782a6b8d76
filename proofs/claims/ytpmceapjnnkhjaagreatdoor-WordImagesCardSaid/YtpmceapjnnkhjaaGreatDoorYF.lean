/-
  Part YF of a proof.
-/
import Derived.Test.YtpmceapjnnkhjaaGreatDoorPA
import Derived.Test.YtpmceapjnnkhjaaGreatDoorYD
import Derived.Test.YtpmceapjnnkhjaaGreatDoorYE
set_option maxHeartbeats 16000000
set_option maxRecDepth 100000
set_option linter.unusedVariables false
set_option linter.unusedSimpArgs false
namespace Go.Proofs.YtpmceapjnnkhjaaGreatDoor
open Go.RowKit
set_option maxHeartbeats 16000000
set_option maxRecDepth 100000
def TR.heavy (a : TR) : Bool := decide (600 < a.start.length) || decide (600 < a.accept.length) || decide (600 < a.moves.length)
theorem heavy_any {v : Value} {a : TR} {w : World} (h : IsTR w w.heap.size v a) : Calls Tryz.prog 6 #[v] w (Ret fun r w' => r = .bool a.heavy ∧ Below w.heap.size w w') := by
 obtain ⟨A1, c1, A2, c2, A3, c3, rfl, h1, h2, h3, h4⟩ := h
 obtain ⟨w1, hw1, hb1, hB1, hk1⟩ := box_blk w #[.int .i64 a.letters, .int .i64 a.states, .slice A1 a.start.length c1, .slice A2 a.accept.length c2, .slice A3 a.moves.length c3] 25
 have hc1 := hB1.cell
 have hb1H := hide hb1
 have l1 := h1.1
 have l2 := h2.1
 have l3 := h3.1
 have hbig := hide (show a.heavy = (decide (600 < a.start.length) || decide (600 < a.accept.length) || decide (600 < a.moves.length)) from rfl)
 generalize a.start.length = n1 at *
 generalize a.accept.length = n2 at *
 generalize a.moves.length = n3 at *
 clear h1 h2 h3 h4 hk1 hb1 hB1
 by_cases b1 : 600 < n1
 ·go_enter Tryz.func6, Tryz.ntmps6
  go_wp2_with fail
  go_ret
  exact ⟨by rw [hbig.out]; simp [b1], hb1H.out⟩
 ·by_cases b2 : 600 < n2
  ·go_enter Tryz.func6, Tryz.ntmps6
   go_wp2_with fail
   go_ret
   exact ⟨by rw [hbig.out]; simp [b2], hb1H.out⟩
  ·by_cases b3 : 600 < n3
   ·go_enter Tryz.func6, Tryz.ntmps6
    go_wp2_with fail
    go_ret
    exact ⟨by rw [hbig.out]; simp [b3]; omega, hb1H.out⟩
   ·go_enter Tryz.func6, Tryz.ntmps6
    go_wp2_with fail
    go_ret
    exact ⟨by rw [hbig.out]; simp [b1, b2, b3]; omega, hb1H.out⟩
def zeroA : WA := ⟨0, 0, [], [], []⟩
theorem zeroA_is (w : World) : IsWA w w.heap.size (.agg zero25) zeroA := ⟨none, 0, none, 0, none, 0, rfl, Sl.nil rfl, Sl.nil rfl, Sl.nil rfl, Nat.le_refl _⟩
theorem lay_box {w : World} {d : Value} {m : WA} (h : IsWA w w.heap.size d m) : ∃ E1 h1 E2 h2 E3 h3 w6, d = .agg #[.int .i64 m.letters, .int .i64 m.states, .slice E1 m.start.length h1, .slice E2 m.accept.length h2, .slice E3 m.edges.length h3] ∧
  w.alloc (.cells #[.int .i64 m.letters, .int .i64 m.states, .slice E1 m.start.length h1, .slice E2 m.accept.length h2, .slice E3 m.edges.length h3] 28) = w6 ∧ Below w.heap.size w w6 ∧ Blk w6 w.heap.size 28 #[.int .i64 m.letters, .int .i64 m.states, .slice E1 m.start.length h1, .slice E2 m.accept.length h2, .slice E3 m.edges.length h3] ∧
  IsWA w6 w6.heap.size (.agg #[.int .i64 m.letters, .int .i64 m.states, .slice E1 m.start.length h1, .slice E2 m.accept.length h2, .slice E3 m.edges.length h3]) m := by
 have h' := h
 obtain ⟨E1, h1, E2, h2, E3, h3, rfl, -⟩ := h'
 obtain ⟨w6, hw6, hb6, hB6, hk6⟩ := box_blk w #[.int .i64 m.letters, .int .i64 m.states, .slice E1 m.start.length h1, .slice E2 m.accept.length h2, .slice E3 m.edges.length h3] 28
 exact ⟨E1, h1, E2, h2, E3, h3, w6, rfl, hw6, hb6, hB6, h.keep (fun p hp => hb6.cell hp) hb6.size⟩
theorem ImRet.get {w w' : World} {t : TR} {a : WA} {r : Value} (h : ImRet w t a r w') : Below w.heap.size w w' ∧ ∃ (mm : WA) (e : Int) (dv : Value), r = .tuple #[dv, .int .i64 e] ∧ IsWA w' w'.heap.size dv mm ∧
  (∀ (w2 w2' : World) (r2 : Value), ImRet w2 t a r2 w2' → Below w2.heap.size w2 w2' ∧ ∃ d2, r2 = .tuple #[d2, .int .i64 e] ∧ IsWA w2' w2'.heap.size d2 mm) := by
 obtain ⟨hb, ⟨h1, rfl⟩ | ⟨h1, h2, rfl⟩ | ⟨h1, h2, h3, t', ac, d, hC, hac, rfl, hI⟩⟩ := h
 ·refine ⟨hb, zeroA, 1, _, rfl, zeroA_is _, fun w2 w2' r2 h' => ?_⟩
  obtain ⟨hb', ⟨-, rfl⟩ | ⟨g1, -⟩ | ⟨g1, -⟩⟩ := h'
  ·exact ⟨hb', _, rfl, zeroA_is _⟩
  all_goals
   rw [h1] at g1; cases g1
 ·refine ⟨hb, zeroA, 4, _, rfl, zeroA_is _, fun w2 w2' r2 h' => ?_⟩
  obtain ⟨hb', ⟨g1, -⟩ | ⟨-, -, rfl⟩ | ⟨-, g1, g2, -⟩⟩ := h'
  ·rw [h1] at g1; cases g1
  ·exact ⟨hb', _, rfl, zeroA_is _⟩
  ·rcases h2 with h2 | h2
   ·exact (g1 h2).elim
   ·exact (g2 h2).elim
 ·refine ⟨hb, plainW a.L t' ac, 0, d, rfl, hI w' (Kept.refl _ _), fun w2 w2' r2 h' => ?_⟩
  obtain ⟨hb', ⟨g1, -⟩ | ⟨-, g1, -⟩ | ⟨-, -, -, u, bc, d2, hD, -, rfl, hI'⟩⟩ := h'
  ·rw [h1] at g1; cases g1
  ·rcases g1 with g1 | g1
   ·exact (h2 g1).elim
   ·exact (h3 g1).elim
  ·obtain ⟨rfl, rfl⟩ := hD.unique hC fun _ _ => rfl
   exact ⟨hb', d2, rfl, hI' w2' (Kept.refl _ _)⟩
theorem lawImages {vt vA : Value} {t : TR} {a : WA} {w : World} (ht : IsTR w w.heap.size vt t) (hA : IsWA w w.heap.size vA a) (hT : PowT w) :
  Calls Tryz.prog 3 #[vt, vA] w (Ret fun v w' => v = .bool true ∧ Below w.heap.size w w') := by
 have htH := hide ht
 have hAH := hide hA
 have hTH := hide hT
 obtain ⟨A1, c1, A2, c2, A3, c3, rfl, p1, p2, p3, -⟩ := ht
 obtain ⟨B1, d1, B2, d2, B3, d3, rfl, q1, q2, q3, -⟩ := hA
 have l1 := p1.1
 have l2 := p2.1
 have l3 := p3.1
 have l4 := q1.1
 have l5 := q2.1
 have l6 := q3.1
 obtain ⟨w1, hw1, hb1, hB1, -⟩ := box_blk w #[.int .i64 t.letters, .int .i64 t.states, .slice A1 t.start.length c1, .slice A2 t.accept.length c2, .slice A3 t.moves.length c3] 25
 obtain ⟨w2, hw2, hb2, hB2, -⟩ := box_blk w1 #[.int .i64 a.letters, .int .i64 a.states, .slice B1 a.start.length d1, .slice B2 a.accept.length d2, .slice B3 a.edges.length d3] 28
 have s1 := hb1.size
 have b03 := hide (hb1.trans (hb2.mono s1))
 have hX3 := hide (hB1.below hb2)
 have hY3 := hide hB2
 have fx := hX3.out.cell
 have fy := hY3.out.cell
 have hheavy := heavy_any (htH.out.keep (w' := w2) (fun p hp => b03.out.cell hp) b03.out.size)
 have hbigH := hide (fun (wx : World) (hb : Below w.heap.size w wx) => Big_any (hAH.out.keep (w' := wx) (fun p hp => hb.cell hp) hb.size))
 have hknH := hide (fun (wx : World) (hb : Below w.heap.size w wx) => known_any (hTH.out.below hb))
 have himgH := hide (fun (wx : World) (hb : Below w.heap.size w wx) => Image_any (htH.out.keep (w' := wx) (fun p hp => hb.cell hp) hb.size) (hAH.out.keep (w' := wx) (fun p hp => hb.cell hp) hb.size) (hTH.out.below hb))
 have hrefH := hide (fun (wx : World) (hb : Below w.heap.size w wx) => refImage_any (htH.out.keep (w' := wx) (fun p hp => hb.cell hp) hb.size) (hAH.out.keep (w' := wx) (fun p hp => hb.cell hp) hb.size))
 obtain ⟨n1, hn1⟩ : ∃ n, n = t.start.length := ⟨_, rfl⟩
 obtain ⟨n2, hn2⟩ : ∃ n, n = t.accept.length := ⟨_, rfl⟩
 obtain ⟨n3, hn3⟩ : ∃ n, n = t.moves.length := ⟨_, rfl⟩
 obtain ⟨n4, hn4⟩ : ∃ n, n = a.start.length := ⟨_, rfl⟩
 obtain ⟨n5, hn5⟩ : ∃ n, n = a.accept.length := ⟨_, rfl⟩
 obtain ⟨n6, hn6⟩ : ∃ n, n = a.edges.length := ⟨_, rfl⟩
 have hnsH := hide (And.intro hn1 (And.intro hn2 (And.intro hn3 (And.intro hn4 (And.intro hn5 hn6)))))
 rw [← hn1] at l1 hX3 fx hw1 ⊢
 rw [← hn2] at l2 hX3 fx hw1 ⊢
 rw [← hn3] at l3 hX3 fx hw1 ⊢
 rw [← hn4] at l4 hY3 fy hw2 ⊢
 rw [← hn5] at l5 hY3 fy hw2 ⊢
 rw [← hn6] at l6 hY3 fy hw2 ⊢
 rw [← hn1, ← hn2, ← hn3] at hheavy
 clear hn1 hn2 hn3 hn4 hn5 hn6 hb1 hB1 hb2 hB2 hT p1 p2 p3 q1 q2 q3
 go_enter Tryz.func3, Tryz.ntmps3
 go_wp2_with fail
 refine Calls.ret hheavy ?_
 rintro r w4 ⟨rfl, hb4⟩
 have b04 := hide (b03.out.trans (hb4.mono b03.out.size))
 have hX4 := hide (hX3.out.below (hb4.mono (Nat.le_refl _)))
 have hY4 := hide (hY3.out.below (hb4.mono (Nat.le_refl _)))
 have gx := hX4.out.cell
 have gy := hY4.out.cell
 clear hheavy hb4 fx fy
 cases hhv : t.heavy with
 | true =>
  have hkn := hknH.out _ b04.out
  go_wp2_with fail
  refine Calls.ret hkn ?_
  rintro r wk ⟨rfl, hbk⟩
  have hbK := hide (b04.out.trans (hbk.mono b04.out.size))
  clear hkn hbk
  go_wp2_with fail
  go_ret
  exact ⟨rfl, hbK.out⟩
 | false =>
  have hv600 : n1 ≤ 600 ∧ n2 ≤ 600 ∧ n3 ≤ 600 := by
   have h := hnsH.out
   unfold TR.heavy at hhv
   simp only [Bool.or_eq_false_iff, decide_eq_false_iff_not] at hhv
   omega
  clear hhv
  have hbig := hbigH.out w4 b04.out
  obtain ⟨e4, e5, e6⟩ := hnsH.out.2.2.2
  rw [← e4, ← e5, ← e6] at hbig
  clear e4 e5 e6
  go_wp2_with fail
  refine Calls.ret hbig ?_
  rintro r w5 ⟨rfl, hb5⟩
  have b05 := hide (b04.out.trans (hb5.mono b04.out.size))
  have hX5 := hide (hX4.out.below (hb5.mono (Nat.le_refl _)))
  have hY5 := hide (hY4.out.below (hb5.mono (Nat.le_refl _)))
  have kx := hX5.out.cell
  have ky := hY5.out.cell
  clear hbig hb5 gx gy
  cases hbg : a.big with
  | true =>
   have hkn := hknH.out _ b05.out
   go_wp2_with fail
   refine Calls.ret hkn ?_
   rintro r wk ⟨rfl, hbk⟩
   have hbK := hide (b05.out.trans (hbk.mono b05.out.size))
   clear hkn hbk
   go_wp2_with fail
   go_ret
   exact ⟨rfl, hbK.out⟩
  | false =>
   have hb600 : n4 ≤ 600 ∧ n5 ≤ 600 ∧ n6 ≤ 1000 := by
    have h := hnsH.out
    have h2 := WA.big_not hbg
    omega
   clear hbg
   obtain ⟨v1, v2, v3⟩ := hv600
   obtain ⟨v4, v5, v6⟩ := hb600
   have x1 : n3 * n6 ≤ 600 * 1000 := Nat.mul_le_mul v3 v6
   have x2 : n1 * n4 ≤ 600 * 600 := Nat.mul_le_mul v1 v4
   have x3 : n2 * n5 ≤ 600 * 600 := Nat.mul_le_mul v2 v5
   by_cases g3 : (20000 : Int) < (n3 : Int) * (n6 : Int)
   ·clear x2 x3
    have hkn := hknH.out _ b05.out
    go_wp2_with fail
    refine Calls.ret hkn ?_
    rintro r wk ⟨rfl, hbk⟩
    have hbK := hide (b05.out.trans (hbk.mono b05.out.size))
    clear hkn hbk
    go_wp2_with fail
    go_ret
    exact ⟨rfl, hbK.out⟩
   ·by_cases g4 : (2000 : Int) < (n1 : Int) * (n4 : Int)
    ·clear x3
     have hkn := hknH.out _ b05.out
     go_wp2_with fail
     refine Calls.ret hkn ?_
     rintro r wk ⟨rfl, hbk⟩
     have hbK := hide (b05.out.trans (hbk.mono b05.out.size))
     clear hkn hbk
     go_wp2_with fail
     go_ret
     exact ⟨rfl, hbK.out⟩
    ·by_cases g5 : (2000 : Int) < (n2 : Int) * (n5 : Int)
     ·skip
      have hkn := hknH.out _ b05.out
      go_wp2_with fail
      refine Calls.ret hkn ?_
      rintro r wk ⟨rfl, hbk⟩
      have hbK := hide (b05.out.trans (hbk.mono b05.out.size))
      clear hkn hbk
      go_wp2_with fail
      go_ret
      exact ⟨rfl, hbK.out⟩
     ·skip
      have himg := himgH.out w5 b05.out (by have := hnsH.out; omega) (by have := hnsH.out; omega) (by have := hnsH.out; omega) (by have := hnsH.out; omega) (by rw [← hnsH.out.1, ← hnsH.out.2.2.2.1]; omega) (by rw [← hnsH.out.2.1, ← hnsH.out.2.2.2.2.1]; omega) (by rw [← hnsH.out.2.2.1, ← hnsH.out.2.2.2.2.2]; omega) (by have := hnsH.out; omega) (by have := hnsH.out; omega)
      rw [← hnsH.out.1, ← hnsH.out.2.1, ← hnsH.out.2.2.1, ← hnsH.out.2.2.2.1, ← hnsH.out.2.2.2.2.1, ← hnsH.out.2.2.2.2.2] at himg
      have hrefH2 := hide (fun (wx : World) (hb : Below w.heap.size w wx) => hrefH.out wx hb (by rw [← hnsH.out.1, ← hnsH.out.2.2.2.1]; omega) (by rw [← hnsH.out.2.1, ← hnsH.out.2.2.2.2.1]; omega) (by rw [← hnsH.out.2.2.1, ← hnsH.out.2.2.2.2.2]; omega) (by have := hnsH.out; omega) (by have := hnsH.out; omega) (by have := hnsH.out; omega))
      go_wp2_with fail
      refine Calls.ret himg ?_
      intro r w6 hret
      obtain ⟨hb6, mm, e, d, rfl, hI6, hoth⟩ := hret.get
      have hothH := hide hoth
      have hbo := lay_box hI6
      obtain ⟨E1, h1, E2, h2, E3, h3, w7, rfl, hw7, hb7, hB7, hI7⟩ := hbo
      have b57 := hb6.trans (hb7.mono hb6.size)
      have b07 := hide (b05.out.trans (b57.mono b05.out.size))
      have hX7 := hide (hX5.out.below (b57.mono (Nat.le_refl _)))
      have hY7 := hide (hY5.out.below (b57.mono (Nat.le_refl _)))
      have hBm7 := hide hB7
      have hIm7 := hide hI7
      have jx := hX7.out.cell
      have jy := hY7.out.cell
      have href := hrefH2.out w7 b07.out
      rw [← hnsH.out.1, ← hnsH.out.2.1, ← hnsH.out.2.2.1, ← hnsH.out.2.2.2.1, ← hnsH.out.2.2.2.2.1, ← hnsH.out.2.2.2.2.2] at href
      clear himg hret hb6 hI6 hoth hb7 hB7 hI7 b57 kx ky x1 x2 x3 g3 g4 g5 v1 v2 v3 v4 v5 v6
      go_wp2_with fail
      refine Calls.ret href ?_
      intro r w8 hret
      obtain ⟨hb8, d2, rfl, hI8⟩ := hothH.out w7 w8 r hret
      have hbo := lay_box hI8
      obtain ⟨G1, g1, G2, g2, G3, g3, w9, rfl, hw9, hb9, hB9, hI9⟩ := hbo
      have b79 := hb8.trans (hb9.mono hb8.size)
      have b09 := hide (b07.out.trans (b79.mono b07.out.size))
      have hIm9 := hide (hIm7.out.keep (w' := w9) (fun p hp => b79.cell hp) b79.size)
      have f7 := (hBm7.out.below (b79.mono (Nat.le_refl _))).cell
      have f8 := hB9.cell
      have hsa := sameAutomaton_any hIm9.out hI9
      rw [decide_eq_true (rfl : mm = mm)] at hsa
      have hee : (e == e) = true := by simp
      clear href hret hb8 hI8 hb9 hB9 hI9 b79 jx jy
      go_wp2_with fail
      refine Calls.ret hsa ?_
      rintro r wA ⟨rfl, hbA⟩
      have b0A := hide (b09.out.trans (hbA.mono b09.out.size))
      clear hsa hbA f7 f8
      have hkn := hknH.out _ b0A.out
      go_wp2_with fail
      refine Calls.ret hkn ?_
      rintro r wk ⟨rfl, hbk⟩
      have hbK := hide (b0A.out.trans (hbk.mono b0A.out.size))
      clear hkn hbk
      go_wp2_with fail
      go_ret
      exact ⟨rfl, hbK.out⟩
end Go.Proofs.YtpmceapjnnkhjaaGreatDoor
