/-
  The law TreeMinimals: the walk.
-/
import Derived.Test.YtnimlcbgeiajiaaQJ
import Derived.Test.YtnimlcbgeiajiaaQE
import Derived.Test.YtnimlcbgeiajiaaQK

namespace Go.Proofs.Ytnimlcbgeiajiaa
open Go.RowKit

theorem own_setG {w : World} {base n g cap o size : Nat} {e : TypeId} {xs : List Value} (h : w.ownsRow base e size (.slice (some ⟨g, 0, none⟩) n cap) n xs) (u : Value) :
    (w.setCell ⟨g, o, none⟩ u).ownsRow base e size (.slice (some ⟨g, 0, none⟩) n cap) n (xs.set o u) := by
  refine ⟨by simpa using h.1, .inr ?_⟩
  rcases h.2 with ⟨hv, _⟩ | ⟨g', cap', cur, hv, hb, hh, h1, h2, h3, h4⟩
  · cases hv
  · injection hv with hg _ hc
    injection hg with hg
    injection hg with hg
    subst hg hc
    exact ⟨g, cap, _, rfl, hb, set_heap hh, h1, h2, by simpa using h3, by simp [List.take_set, h4]⟩
theorem own_cellG {w : World} {base n size : Nat} {e : TypeId} {v : Value} {xs : List Value} (h : w.ownsRow base e size v n xs) {o : Nat} (ho : o < n * size) : ∃ g cap u, v = .slice (some ⟨g, 0, none⟩) n cap ∧ base ≤ g ∧ g < w.heap.size ∧ w.cell? ⟨g, o, none⟩ = some u ∧ w.frozen? ⟨g, o, none⟩ = false := by
  rcases h.2 with ⟨rfl, h0⟩ | ⟨g, cap, cur, rfl, hb, hh, h1, h2, h3, h4⟩
  · rw [h0, Nat.zero_mul] at ho; omega
  · have hB : Blk w g e cur := hh
    have h5 := Nat.mul_le_mul_right size h1
    have hl : o < cur.size := by omega
    exact ⟨g, cap, cur[o], rfl, hb, hB.lt, by rw [hB.cell, Array.getElem?_eq_getElem hl], hB.frozen o⟩

set_option maxHeartbeats 4000000 in
set_option maxRecDepth 100000 in
/-- The leaves are written over. -/
theorem law_stain {w : World} {base g4 k f2 : Nat} {C2 : Option Addr} {x0 x1 x2 x4 : Value} {xs : List Value} (hrow : w.ownsRow base 36 2 (.slice C2 k f2) k xs) (hb : Blk w g4 26 #[x0, x1, x2, .slice C2 k f2, x4]) (hk : k ≤ 8) (hbase : base ≤ w.heap.size)
    {u0 u1 u2 u3 u5 u6 u7 u8 u10 u11 u12 u13 u14 u15 u16 u17 u18 u19 u20 u21 u22 u23 u24 u25 u26 u27 u28 u29 u30 u31 u32 u33 u34 u35 u36 u37 u38 u39 u40 u41 u42 u43 u44 u45 u46 u47 u48 u49 u50 u51 u52 u53 u54 u55 u56 u57 u58 u59 u60 u61 u62 u63 : Value}
    {Q : Exit → Act → World → Prop}
    (hQ : ∀ (x9 x43 x44 x45 x46 x47 x48 x49 x50 x51 x52 x53 x54 : Value) (w' : World), Below base w w' → Q (.exit 0) ⟨List.toArray (u0 :: u1 :: u2 :: u3 :: (.pointer (some ⟨g4, 0, none⟩)) :: u5 :: u6 :: u7 :: u8 :: x9 :: u10 :: u11 :: u12 :: u13 :: u14 :: u15 :: u16 :: u17 :: u18 :: u19 :: u20 :: u21 :: u22 :: u23 :: u24 :: u25 :: u26 :: u27 :: u28 :: u29 :: u30 :: u31 :: u32 :: u33 :: u34 :: 
      u35 :: u36 :: u37 :: u38 :: u39 :: u40 :: u41 :: u42 :: x43 :: x44 :: x45 :: x46 :: x47 :: x48 :: x49 :: x50 :: x51 :: x52 :: x53 :: x54 :: u55 :: u56 :: u57 :: u58 :: u59 :: u60 :: u61 :: u62 :: u63 :: []), []⟩ w') :
    (Code.loop (loopBody Try.f4 0)).wp Try.prog Q ⟨List.toArray (u0 :: u1 :: u2 :: u3 :: (.pointer (some ⟨g4, 0, none⟩)) :: u5 :: u6 :: u7 :: u8 :: (.int .i64 0) :: u10 :: u11 :: u12 :: u13 :: u14 :: u15 :: u16 :: u17 :: u18 :: u19 :: u20 :: u21 :: u22 :: u23 :: u24 :: u25 :: u26 :: u27 :: u28 :: u29 :: u30 :: u31 :: u32 :: 
      u33 :: u34 :: u35 :: u36 :: u37 :: u38 :: u39 :: u40 :: u41 :: u42 :: u43 :: u44 :: u45 :: u46 :: u47 :: u48 :: u49 :: u50 :: u51 :: u52 :: u53 :: u54 :: u55 :: u56 :: u57 :: u58 :: u59 :: u60 :: u61 :: u62 :: u63 :: []), []⟩ w := by
  conv => arg 2; arg 1; whnf
  go_loopw [9] (fun ii wr => ∃ (i : Nat) (xs' : List Value), ii = .int .i64 (i : Int) ∧ i ≤ k ∧ Below base w wr ∧ wr.ownsRow base 36 2 (.slice C2 k f2) k xs' ∧ Blk wr g4 26 #[x0, x1, x2, .slice C2 k f2, x4]) (fun ii _ => k - (intOf ii).toNat)
  case atStart => exact ⟨0, xs, rfl, Nat.zero_le _, Below.refl _ _, hrow, hb⟩
  case round =>
    obtain ⟨i, xs', rfl, hi, hB, hr, hb4⟩ := hrel
    have hc4 := hb4.cell
    by_cases hlt : i < k
    · obtain ⟨g, cap, u, hv, hbg, hgl, hc, hf⟩ := own_cellG hr (o := i * 2 + 1) (by omega)
      injection hv with hv _ hv3
      subst hv hv3
      have hne : ¬ g4 = g := fun e => by subst e; exact own_blk_ne hr hb4 (by decide) rfl
      have hks : Kept wr (wr.setCell ⟨g, i * 2 + 1, none⟩ (.int .i64 99)) (fun b => b = g) := (Kept.refl wr (fun b => b = g)).setCell (p := ⟨g, i * 2 + 1, none⟩) (fun _ => rfl) _
      have hfin : Hid (Below base w (wr.setCell ⟨g, i * 2 + 1, none⟩ (.int .i64 99)) ∧ (wr.setCell ⟨g, i * 2 + 1, none⟩ (.int .i64 99)).ownsRow base 36 2 (.slice (some ⟨g, 0, none⟩) k f2) k (xs'.set (i * 2 + 1) (.int .i64 99)) ∧ Blk (wr.setCell ⟨g, i * 2 + 1, none⟩ (.int .i64 99)) g4 26 #[x0, x1, x2, .slice (some ⟨g, 0, none⟩) k f2, x4]) :=
        ⟨hB.trans (hks.below (Nat.le_trans hbase hB.size) fun b hb e => by omega), own_setG hr _, hb4.kept hks hne⟩
      clear hB hr hb4 hks
      go_wp2_with fail
      exact ⟨⟨i + 1, _, by go_num, by omega, by simpa using hfin.out.1, by simpa using hfin.out.2.1, by simpa using hfin.out.2.2⟩, by simp [intOf]; omega⟩
    · have hBH := hide hB
      clear hB
      go_wp2_with fail
      first | exact hBH.out | exact hQ _ _ _ _ _ _ _ _ _ _ _ _ _ wr hBH.out

set_option maxHeartbeats 8000000 in
set_option maxRecDepth 100000 in
theorem lawMinimals {v : Value} {a : TA} {w : World} (h : IsTA w w.heap.size v a) :
    Calls Try.prog 4 #[v] w (Ret fun v w' => v = .bool true ∧ Below w.heap.size w w') := by
  obtain ⟨A1, c1, A2, c2, A3, c3, rfl, h1, h2, h3⟩ := h
  obtain ⟨w1, hw1, hb1, hB1, hk1⟩ := box_blk w #[.int .i64 a.letters, .int .i64 a.states, .slice A1 a.accept.length c1, .slice A2 a.leaves.length c2, .slice A3 a.branches.length c3] 26
  have hsz1 := hb1.size
  have hcb := hB1.cell
  have hT : IsTA w1 w1.heap.size (.agg #[.int .i64 a.letters, .int .i64 a.states, .slice A1 a.accept.length c1, .slice A2 a.leaves.length c2, .slice A3 a.branches.length c3]) a :=
    IsTA.keep ⟨A1, c1, A2, c2, A3, c3, rfl, h1, h2, h3⟩ (fun _ hp => hb1.cell hp) hsz1
  have hTT := hide hT
  clear hT h1 h2 h3
  go_enter Try.func4, Try.ntmps4
  go_wp2_with fail
  refine (Big_any _ a w1 hTT.out).mono ?_
  rintro e w2 ⟨rfl, hb2⟩
  have hb02 : Below w.heap.size w w2 := hb1.trans (hb2.mono hsz1)
  have hB2 := hB1.below hb2
  have hcb2 := hB2.cell
  have hsz2 := hb2.size
  cases hbig : a.big with
  | true =>
    go_wp2_with fail
    refine Calls.ret (known_any w2) ?_
    rintro v w3 ⟨rfl, hb3⟩
    have hb03 := hide (hb02.trans (hb3.mono (by omega)))
    clear hb3
    go_wp2_with fail
    go_ret
    exact ⟨rfl, hb03.out⟩
  | false =>
    have hbg : a.accept.length ≤ 300 ∧ a.leaves.length ≤ 300 ∧ a.branches.length ≤ 800 := by
      simp [TA.big] at hbig
      omega
    have hBG := hide hbg
    clear hbg hbig
    by_cases h12 : 12 < a.states ∧ a.states ≤ 64
    · obtain ⟨h12a, h12b⟩ := h12
      go_wp2_with fail
      refine Calls.ret (known_any w2) ?_
      rintro v w3 ⟨rfl, hb3⟩
      have hb03 := hide (hb02.trans (hb3.mono (by omega)))
      clear hb3
      go_wp2_with fail
      go_ret
      exact ⟨rfl, hb03.out⟩
    · have hT2 := hide (hTT.out.keep (fun _ hp => hb2.cell hp) hsz2)
      have hor : ¬ 12 < a.states ∨ 12 < a.states ∧ ¬ a.states ≤ 64 := by omega
      clear h12
      rcases hor with hs | ⟨hs, hs'⟩
      all_goals
        go_wp2_with fail
        refine Calls.ret (copyAutomaton_any hT2.out (by have := hBG.out; omega) (by have := hBG.out; omega) (by have := hBG.out; omega)) ?_
        rintro v3 w3 ⟨hb3, hT3⟩
        obtain ⟨B1, d1, B2, d2, B3, d3, rfl, s1, s2, s3⟩ := hT3
        have hT3H := hide (show IsTA w3 w3.heap.size (.agg #[.int .i64 a.letters, .int .i64 a.states, .slice B1 a.accept.length d1, .slice B2 a.leaves.length d2, .slice B3 a.branches.length d3]) a from ⟨B1, d1, B2, d2, B3, d3, rfl, s1, s2, s3⟩)
        obtain ⟨w4, hw4, hb4, hB4, hk4⟩ := box_blk w3 #[.int .i64 a.letters, .int .i64 a.states, .slice B1 a.accept.length d1, .slice B2 a.leaves.length d2, .slice B3 a.branches.length d3] 26
        have hb24 : Below w2.heap.size w2 w4 := hb3.trans (hb4.mono hb3.size)
        have hsz3 := hb3.size
        have hsz4 := hb4.size
        have hb04 : Below w.heap.size w w4 := hb02.trans (hb24.mono (by omega))
        have hTo4 := hide (hT3H.out.keep (fun _ hp => hb4.cell hp) hsz4)
        have hT4 := hide (hT2.out.keep (fun _ hp => hb24.cell hp) hb24.size)
        have hB14 := hB2.below hb24
        have hc14 := hB14.cell
        have hc34 := hB4.cell
        clear s1 s2 s3 hb3 hcb2
        go_wp2_with fail
        refine Calls.ret (Minimal_any _ a w4 hTo4.out (by have := hBG.out; omega)) ?_
        rintro v5 w5 ⟨hb5, hres⟩
        obtain ⟨e, b, vm, rfl, hrel, hTA5⟩ := hres.rel
        obtain ⟨C1, f1, C2, f2, C3, f3, xs, rfl, q1, q2, q3, hrow, hk8⟩ := hTA5
        have hTm5 := hide (show IsTA w5 w5.heap.size (.agg #[.int .i64 b.letters, .int .i64 b.states, .slice C1 b.accept.length f1, .slice C2 b.leaves.length f2, .slice C3 b.branches.length f3]) b from ⟨C1, f1, C2, f2, C3, f3, rfl, q1, q2, q3⟩)
        obtain ⟨w6, hw6, hb6, hB6, hk6⟩ := box_blk w5 #[.int .i64 b.letters, .int .i64 b.states, .slice C1 b.accept.length f1, .slice C2 b.leaves.length f2, .slice C3 b.branches.length f3] 26
        have hsz5 := hb5.size
        have hsz6 := hb6.size
        have hb46 : Below w4.heap.size w4 w6 := hb5.trans (hb6.mono hb5.size)
        have hT6 := hide (hT4.out.keep (fun _ hp => hb46.cell hp) hb46.size)
        have hB16 := hB14.below hb46
        have hc16 := hB16.cell
        have hrow5 := hide hrow
        have hrelH := hide hrel
        clear hres q1 q2 q3 hb5 hrow hrel hc14 hc34
        go_wp2_with fail
        refine Calls.ret (refMinimal_any _ a w6 hT6.out) ?_
        rintro v7 w7 ⟨hb7, hres⟩
        obtain ⟨e', b', vn, rfl, hrel', hTA7⟩ := hres.rel
        obtain ⟨rfl, rfl⟩ := hrelH.out.unique hrel'
        obtain ⟨D1, g1, D2, g2, D3, g3, xs', rfl, q1, q2, q3, -, -⟩ := hTA7
        have hTn7 := hide (show IsTA w7 w7.heap.size (.agg #[.int .i64 b.letters, .int .i64 b.states, .slice D1 b.accept.length g1, .slice D2 b.leaves.length g2, .slice D3 b.branches.length g3]) b from ⟨D1, g1, D2, g2, D3, g3, rfl, q1, q2, q3⟩)
        obtain ⟨w8, hw8, hb8, hB8, hk8'⟩ := box_blk w7 #[.int .i64 b.letters, .int .i64 b.states, .slice D1 b.accept.length g1, .slice D2 b.leaves.length g2, .slice D3 b.branches.length g3] 26
        have hsz7 := hb7.size
        have hsz8 := hb8.size
        have hb68 : Below w6.heap.size w6 w8 := hb7.trans (hb8.mono hb7.size)
        have hb58 : Below w5.heap.size w5 w8 := hb6.trans (hb68.mono hsz6)
        have hTm8 := hide (hTm5.out.keep (fun _ hp => hb58.cell hp) hb58.size)
        have hTn8 := hide (hTn7.out.keep (fun _ hp => hb8.cell hp) hsz8)
        have hB68 := hB6.below hb68
        have hc68 := hB68.cell
        have hc88 := hB8.cell
        have hee : (e == e) = true := by simp
        clear hres hrel' q1 q2 q3 hb7 hc16
        go_wp2_with (go_at_call 23; refine Calls.ret (sameAutomaton_any hTm8.out hTn8.out) ?_; rintro r9 w9 ⟨rfl, hb9⟩; have hb9H := hide hb9; clear hb9)
        have hb59 : Below w5.heap.size w5 w9 := hb58.trans (hb9H.out.mono hb58.size)
        have hrow9 := (Kept.of_below hb59 (fun _ => False)).ownsRow hrow5.out (fun _ _ => id)
        have hb49 : Below w4.heap.size w4 w9 := (hb46.trans (hb68.mono hb46.size)).trans (hb9H.out.mono (by omega))
        refine law_stain hrow9 (hB68.below hb9H.out) hk8 hb49.size ?_
        iterate 13 (intro _)
        intro wE hbE
        have hb4E : Below w4.heap.size w4 wE := hb49.trans hbE
        have hToE := hide (hTo4.out.keep (fun _ hp => hb4E.cell hp) hb4E.size)
        have hTaE := hide (hT4.out.keep (fun _ hp => hb4E.cell hp) hb4E.size)
        have hc1E := (hB14.below hb4E).cell
        have hc3E := (hB4.below hb4E).cell
        have hb0E := hide (hb04.trans (hb4E.mono (by omega)))
        clear hbE hb49 hb59 hrow9 hb4E hc68 hc88
        go_wp2_with (first
          | (go_at_call 23; refine Calls.ret (sameAutomaton_any hToE.out hTaE.out) ?_; rintro r10 w10 ⟨rfl, hb10⟩; have hb10H := hide hb10; clear hb10)
          | (go_at_call 17; refine Calls.ret (known_any w10) ?_; rintro r11 w11 ⟨rfl, hb11⟩; have hb11H := hide hb11; clear hb11))
        go_ret
        have hs10 := hb10H.out.size
        have hsE := hb0E.out.size
        exact ⟨rfl, (hb0E.out.trans (hb10H.out.mono (by omega))).trans (hb11H.out.mono (by omega))⟩
end Go.Proofs.Ytnimlcbgeiajiaa
