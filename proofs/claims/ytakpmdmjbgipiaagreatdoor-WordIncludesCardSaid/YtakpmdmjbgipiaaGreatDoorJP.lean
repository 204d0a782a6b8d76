/-
  Part JP of a proof.
-/
import Derived.Test.YtakpmdmjbgipiaaGreatDoorPA
import Derived.Test.YtakpmdmjbgipiaaGreatDoorPN
set_option maxHeartbeats 16000000
set_option maxRecDepth 100000
set_option linter.unusedVariables false
set_option linter.unusedSimpArgs false
namespace Go.Proofs.YtakpmdmjbgipiaaGreatDoor
open Go.RowKit
set_option maxHeartbeats 16000000
set_option maxRecDepth 100000
theorem take_snoc_eq {α : Type} {xs ys : List α} {i : Nat} {x : α} (hx : xs[i]? = some x) (hy : ys[i]? = some x) (h : xs.take i = ys.take i) : xs.take (i + 1) = ys.take (i + 1) := by
 rw [List.take_add_one, List.take_add_one, h, hx, hy]
theorem take_all_eq {α : Type} {xs ys : List α} {i : Nat} (h : xs.take i = ys.take i) (h1 : xs.length ≤ i) (h2 : ys.length ≤ i) : xs = ys := by
 rw [List.take_of_length_le h1, List.take_of_length_le h2] at h
 exact h
theorem ne_of_at {α : Type} {xs ys : List α} {i : Nat} {x y : α} (hx : xs[i]? = some x) (hy : ys[i]? = some y) (h : x ≠ y) : xs ≠ ys := by
 rintro rfl
 rw [hx] at hy
 exact h (Option.some.inj hy)
def cmpI : List Int → List Int → Int
 | [], [] => 0
 | [], _ :: _ => -1
 | _ :: _, [] => 1
 | x :: xs, y :: ys => if x < y then -1 else if y < x then 1 else cmpI xs ys
theorem cmpI_zero : ∀ {xs ys : List Int}, cmpI xs ys = 0 ↔ xs = ys
 | [], [] => by simp [cmpI]
 | [], _ :: _ => by simp [cmpI]
 | _ :: _, [] => by simp [cmpI]
 | x :: xs, y :: ys => by
  have ih := cmpI_zero (xs := xs) (ys := ys)
  unfold cmpI
  rcases Int.lt_trichotomy x y with h | h | h
  ·rw [if_pos h]
   constructor
   ·intro e; omega
   ·intro e; injection e with e _; omega
  ·subst h
   rw [if_neg (by omega), if_neg (by omega), ih]
   constructor
   ·intro e; rw [e]
   ·intro e; injection e
  ·rw [if_neg (by omega), if_pos h]
   constructor
   ·intro e; omega
   ·intro e; injection e with e _; omega
theorem cmpI_step {xs ys : List Int} {i : Nat} {x y : Int} (hx : xs[i]? = some x) (hy : ys[i]? = some y) : cmpI (xs.drop i) (ys.drop i) = if x < y then -1 else if y < x then 1 else cmpI (xs.drop (i + 1)) (ys.drop (i + 1)) := by
 obtain ⟨h1, rfl⟩ := List.getElem?_eq_some_iff.1 hx
 obtain ⟨h2, rfl⟩ := List.getElem?_eq_some_iff.1 hy
 rw [List.drop_eq_getElem_cons h1, List.drop_eq_getElem_cons h2, cmpI]
theorem cmpI_lex : ∀ {u v : List Nat}, u.length = v.length → lexLe u v → cmpI (natL u) (natL v) ≤ 0
 | [], [], _, _ => by simp [natL, cmpI]
 | x :: u, y :: v, hl, h => by
  show cmpI ((x : Int) :: natL u) ((y : Int) :: natL v) ≤ 0
  unfold cmpI
  rcases h with h | ⟨rfl, h⟩
  ·rw [if_pos (by omega)]; omega
  ·rw [if_neg (by omega), if_neg (by omega)]
   exact cmpI_lex (by simpa using hl) h
theorem compareInts_any {w : World} {B1 B2 c1 c2 : Nat} {A1 A2 : Option Addr} {xs ys : List Int} (h1 : Sl w B1 1 encI A1 xs) (h2 : Sl w B2 1 encI A2 ys) (hB1 : B1 ≤ w.heap.size) (hB2 : B2 ≤ w.heap.size) :
  Calls Tryz.prog 42 #[.slice A1 xs.length c1, .slice A2 ys.length c2] w (Ret fun r w' => r = .int .i64 (cmpI xs ys) ∧ Below w.heap.size w w') := by
 have hn := h1.1
 have hm := h2.1
 go_enter Tryz.func42, Tryz.ntmps42
 go_wp2_with fail
 go_loopw [5] (fun ii wr => ∃ (i : Nat), ii = .int .i64 (i : Int) ∧ i ≤ xs.length ∧ i ≤ ys.length ∧ Below w.heap.size w wr ∧ Hid (cmpI xs ys = cmpI (xs.drop i) (ys.drop i))) (fun ii _ => xs.length - (intOf ii).toNat)
 case atStart => exact ⟨0, rfl, Nat.zero_le _, Nat.zero_le _, Below.refl _ _, by show _ = _; simp⟩
 case round =>
  obtain ⟨i, rfl, hi, hi2, hB, hT⟩ := hrel
  by_cases hlt : i < xs.length
  ·by_cases hlt2 : i < ys.length
   ·obtain ⟨b1, o1, x, rfl, hb1, hx, hc1⟩ := h1.at hlt
    obtain ⟨b2, o2, y, rfl, hb2, hy, hc2⟩ := h2.at hlt2
    have e1 := (hB.cell (by show b1 < _; omega)).trans (hc1 0 (by omega))
    have e2 := (hB.cell (by show b2 < _; omega)).trans (hc2 0 (by omega))
    simp only [Nat.mul_one, Nat.add_zero, encI] at e1 e2
    have hst0 := hide (hB.trans ((drewB wr).mono hB.size))
    have hst := hide ((hB.trans ((drewB wr).mono hB.size)).trans ((drewB wr.drew).mono hB.size))
    have hC := hide (hT.out.trans (cmpI_step hx hy))
    clear hx hy hc1 hc2 hT
    rcases Int.lt_trichotomy x y with hxy | hxy | hxy
    ·have hC2 : Hid (cmpI xs ys = -1) := by show _ = _; rw [hC.out, if_pos hxy]
     go_wp2_with fail
     refine Reg.cP [0, 0, 3, 7, 0, 0, 48, 112, 255] ?_
     go_wp2_with fail
     go_ret
     exact ⟨by rw [hC2.out]; first | done | rfl, hst0.out⟩
    ·subst hxy
     have hC2 : Hid (cmpI xs ys = cmpI (xs.drop (i + 1)) (ys.drop (i + 1))) := by show _ = _; rw [hC.out, if_neg (by omega), if_neg (by omega)]
     go_wp2_with fail
     refine Reg.cP [0, 0, 3, 7, 0, 0, 48, 112, 255] ?_
     go_wp2_with fail
     refine Reg.cP [0, 0, 3, 7, 0, 0, 48, 112, 255] ?_
     go_wp2_with fail
     exact ⟨⟨i + 1, by simp, by omega, by omega, hst.out, hC2⟩, by simp [intOf]; omega⟩
    ·have hC2 : Hid (cmpI xs ys = 1) := by show _ = _; rw [hC.out, if_neg (by omega), if_pos hxy]
     have hnl : ¬ x < y := by omega
     go_wp2_with fail
     refine Reg.cP [0, 0, 3, 7, 0, 0, 48, 112, 255] ?_
     go_wp2_with fail
     refine Reg.cP [0, 0, 3, 7, 0, 0, 48, 112, 255] ?_
     go_wp2_with fail
     go_ret
     exact ⟨by rw [hC2.out]; first | done | rfl, hst.out⟩
   ·have hC2 : Hid (cmpI xs ys = 1) := by
     show _ = _
     rw [hT.out, (List.drop_eq_nil_of_le (by omega) : ys.drop i = []), List.drop_eq_getElem_cons hlt, cmpI]
    have hlt3 : ys.length < xs.length := by omega
    have hlt4 : ¬ xs.length < ys.length := by omega
    go_wp2_with fail
    go_ret
    exact ⟨by rw [hC2.out]; first | done | rfl, hB⟩
  ·by_cases hlt2 : i < ys.length
   ·have hC2 : Hid (cmpI xs ys = -1) := by
     show _ = _
     rw [hT.out, (List.drop_eq_nil_of_le (by omega) : xs.drop i = []), List.drop_eq_getElem_cons hlt2, cmpI]
    have hlt4 : xs.length < ys.length := by omega
    go_wp2_with fail
    go_ret
    exact ⟨by rw [hC2.out]; first | done | rfl, hB⟩
   ·have hC2 : Hid (cmpI xs ys = 0) := by
     show _ = _
     rw [hT.out, (List.drop_eq_nil_of_le (by omega) : xs.drop i = []), (List.drop_eq_nil_of_le (by omega) : ys.drop i = []), cmpI]
    have hlt4 : ¬ xs.length < ys.length := by omega
    have hlt3 : ¬ ys.length < xs.length := by omega
    go_wp2_with fail
    go_ret
    exact ⟨by rw [hC2.out]; first | done | rfl, hB⟩
theorem sameInts_any {w : World} {B1 B2 c1 c2 : Nat} {A1 A2 : Option Addr} {xs ys : List Int} (h1 : Sl w B1 1 encI A1 xs) (h2 : Sl w B2 1 encI A2 ys) (hB1 : B1 ≤ w.heap.size) (hB2 : B2 ≤ w.heap.size) :
  Calls Tryz.prog 20 #[.slice A1 xs.length c1, .slice A2 ys.length c2] w (Ret fun r w' => r = .bool (decide (xs = ys)) ∧ Below w.heap.size w w') := by
 have hcall := compareInts_any (c1 := c1) (c2 := c2) h1 h2 hB1 hB2
 have hz := hide (cmpI_zero (xs := xs) (ys := ys))
 generalize cmpI xs ys = z at *
 go_enter Tryz.func20, Tryz.ntmps20
 go_wp2_with fail
 refine Calls.ret hcall ?_
 rintro v w2 ⟨rfl, hb⟩
 have hb2 := hide hb
 clear hb hcall
 go_wp2_with fail
 go_ret
 exact ⟨congrArg Value.bool (decide_eq_decide.2 hz.out), hb2.out⟩
theorem sameAutomaton_any {v1 v2 : Value} {a b : WA} {w : World} (h : IsWA w w.heap.size v1 a) (h' : IsWA w w.heap.size v2 b) :
  Calls Tryz.prog 11 #[v1, v2] w (Ret fun r w' => r = .bool (decide (a = b)) ∧ Below w.heap.size w w') := by
 obtain ⟨A1, c1, A2, c2, A3, c3, rfl, h1, h2, h3, -⟩ := h
 obtain ⟨A4, c4, A5, c5, A6, c6, rfl, h4, h5, h6, -⟩ := h'
 obtain ⟨La, Sa, st, ac, ed⟩ := a
 obtain ⟨Lb, Sb, st', ac', ed'⟩ := b
 simp only at h1 h2 h3 h4 h5 h6 ⊢
 obtain ⟨n2, hn2⟩ : ∃ n, ed.length = n := ⟨_, rfl⟩
 obtain ⟨m2, hm2⟩ : ∃ n, ed'.length = n := ⟨_, rfl⟩
 have b2 : n2 ≤ 9223372036854775807 := hn2 ▸ h3.1
 have b3 : m2 ≤ 9223372036854775807 := hm2 ▸ h6.1
 rw [hn2, hm2]
 have HN2 := hide hn2
 have HM2 := hide hm2
 clear hn2 hm2
 obtain ⟨w1, hw1, hb1, hB1, hk1⟩ := box_blk w #[.int .i64 La, .int .i64 Sa, .slice A1 st.length c1, .slice A2 ac.length c2, .slice A3 n2 c3] 28
 obtain ⟨w2, hw2, hb2, hB2, hk2⟩ := box_blk w1 #[.int .i64 Lb, .int .i64 Sb, .slice A4 st'.length c4, .slice A5 ac'.length c5, .slice A6 m2 c6] 28
 have hsz1 := hb1.size
 have hsz2 := hb2.size
 have hb02 := hb1.trans (hb2.mono hsz1)
 have hB12 := hB1.kept hk2 id
 have hcb1 := hB12.cell
 have hcb2 := hB2.cell
 by_cases g1 : La = Lb
 case neg =>
  have hne : Hid ((⟨La, Sa, st, ac, ed⟩ : WA) ≠ ⟨Lb, Sb, st', ac', ed'⟩) := fun e => g1 (congrArg WA.letters e)
  go_enter Tryz.func11, Tryz.ntmps11
  go_wp2_with fail
  go_ret
  exact ⟨congrArg Value.bool (decide_eq_false hne.out).symm, hb02⟩
 subst g1
 by_cases g2 : Sa = Sb
 case neg =>
  have hne : Hid ((⟨La, Sa, st, ac, ed⟩ : WA) ≠ ⟨La, Sb, st', ac', ed'⟩) := fun e => g2 (congrArg WA.states e)
  go_enter Tryz.func11, Tryz.ntmps11
  go_wp2_with fail
  go_ret
  exact ⟨congrArg Value.bool (decide_eq_false hne.out).symm, hb02⟩
 subst g2
 by_cases g3 : n2 = m2
 case neg =>
  have hne : Hid ((⟨La, Sa, st, ac, ed⟩ : WA) ≠ ⟨La, Sa, st', ac', ed'⟩) := fun e => g3 (by rw [← HN2.out, ← HM2.out]; exact congrArg (fun a => a.edges.length) e)
  go_enter Tryz.func11, Tryz.ntmps11
  go_wp2_with fail
  go_ret
  exact ⟨congrArg Value.bool (decide_eq_false hne.out).symm, hb02⟩
 subst g3
 go_enter Tryz.func11, Tryz.ntmps11
 go_wp2_with fail
 go_loopw [5] (fun ii wr => ∃ (i : Nat), ii = .int .i64 (i : Int) ∧ i ≤ n2 ∧ Below w2.heap.size w2 wr ∧ Hid (ed.take i = ed'.take i)) (fun ii _ => n2 - (intOf ii).toNat)
 case atStart => exact ⟨0, rfl, Nat.zero_le _, Below.refl _ _, by show _ = _; simp⟩
 case round =>
  obtain ⟨i, rfl, hi, hB, hT⟩ := hrel
  have hcr1 := (hB12.kept (Kept.of_below hB (fun _ => False)) id).cell
  have hcr2 := (hB2.kept (Kept.of_below hB (fun _ => False)) id).cell
  by_cases hlt : i < n2
  ·obtain ⟨b1, o1, x, rfl, hb1', hx, hc1⟩ := h3.at (k := i) (by have := HN2.out; omega)
   obtain ⟨b2, o2, y, rfl, hb2', hy, hc2⟩ := h6.at (k := i) (by have := HM2.out; omega)
   have hHX := hide hx
   have hHY := hide hy
   have e1 := fun j hj => (hB.cell (by show b1 < _; omega)).trans ((hb02.cell (by exact hb1')).trans (hc1 j hj))
   have e2 := fun j hj => (hB.cell (by show b2 < _; omega)).trans ((hb02.cell (by exact hb2')).trans (hc2 j hj))
   have e10 := e1 0 (by omega)
   have e11 := e1 1 (by omega)
   have e12 := e1 2 (by omega)
   have e20 := e2 0 (by omega)
   have e21 := e2 1 (by omega)
   have e22 := e2 2 (by omega)
   simp only [Nat.add_zero, encE] at e10 e11 e12 e20 e21 e22
   have hst := hide (hB.trans ((drewB wr).mono hB.size))
   clear hx hy hc1 hc2 e1 e2
   by_cases hxy : x = y
   ·subst hxy
    go_wp2_with fail
    refine Reg.cP [0, 1, 0, 7, 15, 0, 32, 0, 224, 480, 1023] ?_
    go_wp2_with fail
    exact ⟨⟨i + 1, by simp, by omega, hst.out, take_snoc_eq hHX.out hHY.out hT.out⟩, by simp [intOf]; omega⟩
   ·have hne : Hid ((⟨La, Sa, st, ac, ed⟩ : WA) ≠ ⟨La, Sa, st', ac', ed'⟩) := fun e => ne_of_at hHX.out hHY.out hxy (congrArg WA.edges e)
    have hor : x.frm ≠ y.frm ∨ x.frm = y.frm ∧ (x.letter ≠ y.letter ∨ x.letter = y.letter ∧ x.to ≠ y.to) := by
     rcases x with ⟨x1, x2, x3⟩; rcases y with ⟨y1, y2, y3⟩
     simp only [Edg.mk.injEq] at hxy
     simp only
     by_cases e : x1 = y1
     ·refine Or.inr ⟨e, ?_⟩
      by_cases e2 : x2 = y2
      ·exact Or.inr ⟨e2, fun e' => hxy ⟨e, e2, e'⟩⟩
      ·exact Or.inl e2
     ·exact Or.inl e
    clear hxy
    rcases hor with e | ⟨e, e' | ⟨e', e''⟩⟩
    all_goals
     go_wp2_with fail
     refine Reg.cP [0, 1, 0, 7, 15, 0, 32, 0, 224, 480, 1023] ?_
     go_wp2_with fail
     go_ret
     exact ⟨congrArg Value.bool (decide_eq_false hne.out).symm, hb02.trans (hst.out.mono (by omega))⟩
  ·have hLe : Hid (ed = ed') := take_all_eq hT.out (by have := HN2.out; omega) (by have := HM2.out; omega)
   have hsw := hB.size
   have hb0r := hb02.trans (hB.mono (by omega))
   have hS1 := (h1.below hb0r).mono hb0r.size
   have hS2 := (h2.below hb0r).mono hb0r.size
   have hS4 := (h4.below hb0r).mono hb0r.size
   have hS5 := (h5.below hb0r).mono hb0r.size
   have hcall1 := sameInts_any (c1 := c1) (c2 := c4) hS1 hS4 (Nat.le_refl _) (Nat.le_refl _)
   have hnext := hide (fun (wx : World) (hb : Below wr.heap.size wr wx) => sameInts_any (w := wx) (c1 := c2) (c2 := c5) ((hS2.below hb).mono hb.size) ((hS5.below hb).mono hb.size) (Nat.le_refl _) (Nat.le_refl _))
   have hb0H := hide hb0r
   have hdec : Hid (decide ((⟨La, Sa, st, ac, ed⟩ : WA) = ⟨La, Sa, st', ac', ed'⟩) = (decide (st = st') && decide (ac = ac'))) := by
    show _ = _
    rw [hLe.out, Bool.eq_iff_iff]
    simp only [decide_eq_true_eq, Bool.and_eq_true, WA.mk.injEq, true_and, and_true]
   have hst1 := h1.1
   have hst2 := h4.1
   have hBk1 := hide (hB12.kept (Kept.of_below hB (fun _ => False)) id)
   have hBk2 := hide (hB2.kept (Kept.of_below hB (fun _ => False)) id)
   clear hS1 hS2 hS4 hS5 hb0r h1 h2 h3 h4 h5 h6 hB hT
   generalize decide (st = st') = d1 at *
   generalize decide (ac = ac') = d2 at *
   cases d1
   ·go_wp2_with fail
    refine Calls.ret hcall1 ?_
    rintro v w9 ⟨rfl, hb⟩
    have hb9 := hide hb
    clear hb hcall1 hcr1 hcr2
    go_wp2_with fail
    go_ret
    exact ⟨by rw [hdec.out]; rfl, hb0H.out.trans (hb9.out.mono hb0H.out.size)⟩
   ·go_wp2_with fail
    refine Calls.ret hcall1 ?_
    rintro v w9 ⟨rfl, hb⟩
    have hcr1' : Hid (Below wr.heap.size wr w9) := hb
    have hcall2 := hnext.out w9 hb
    have hd1 := (hBk1.out.kept (Kept.of_below hb (fun _ => False)) id).cell
    have hd2 := (hBk2.out.kept (Kept.of_below hb (fun _ => False)) id).cell
    clear hb hcall1 hcr1 hcr2
    go_wp2_with fail
    refine Calls.ret hcall2 ?_
    rintro v w10 ⟨rfl, hb⟩
    have hbF := hide (hb0H.out.trans ((hcr1'.out.trans (hb.mono hcr1'.out.size)).mono hb0H.out.size))
    clear hb hcall2
    go_wp2_with fail
    go_ret
    exact ⟨by rw [hdec.out]; rfl, hbF.out⟩
end Go.Proofs.YtakpmdmjbgipiaaGreatDoor
