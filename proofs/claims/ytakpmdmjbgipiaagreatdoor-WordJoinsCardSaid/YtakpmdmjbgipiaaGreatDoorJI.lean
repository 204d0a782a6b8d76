/-
  Part JI of a proof.
-/
import Derived.Test.YtakpmdmjbgipiaaGreatDoorPA
import Derived.Test.YtakpmdmjbgipiaaGreatDoorJH
import Derived.Test.YtakpmdmjbgipiaaGreatDoorPG
import Derived.Test.YtakpmdmjbgipiaaGreatDoorJG
import Derived.Test.YtakpmdmjbgipiaaGreatDoorPJ
set_option maxHeartbeats 16000000
set_option maxRecDepth 100000
set_option linter.unusedVariables false
set_option linter.unusedSimpArgs false
namespace Go.Proofs.YtakpmdmjbgipiaaGreatDoor
open Go.RowKit
set_option maxHeartbeats 16000000
set_option maxRecDepth 100000
theorem eqBools_any {w : World} {B1 B2 c1 c2 : Nat} {A1 A2 : Option Addr} {xs ys : List Bool} (h1 : Sl w B1 1 encB A1 xs) (h2 : Sl w B2 1 encB A2 ys) (hB1 : B1 ≤ w.heap.size) (hB2 : B2 ≤ w.heap.size) :
    Calls Tryz.prog 68 #[.slice A1 xs.length c1, .slice A2 ys.length c2] w (Ret fun v w' => v = .bool (decide (xs = ys)) ∧ Below w.heap.size w w') := by
  have hl1 := h1.1
  have hl2 := h2.1
  have h1H := hide h1
  have h2H := hide h2
  obtain ⟨n1, hn1⟩ : ∃ n, n = xs.length := ⟨_, rfl⟩
  obtain ⟨n2, hn2⟩ : ∃ n, n = ys.length := ⟨_, rfl⟩
  rw [← hn1] at hl1 ⊢
  rw [← hn2] at hl2 ⊢
  have hn1H := hide hn1
  have hn2H := hide hn2
  clear h1 h2 hn1 hn2
  by_cases hne : n1 = n2
  · subst hne
    go_enter Tryz.func68, Tryz.ntmps68
    go_wp2_with fail
    go_loopw [13] (fun ii wr => ∃ (i : Nat), ii = .int .i64 (i : Int) ∧ i ≤ n1 ∧ Below w.heap.size w wr ∧ Hid (∀ j, j < i → xs[j]? = ys[j]?)) (fun ii _ => n1 - (intOf ii).toNat)
    case atStart => exact ⟨0, rfl, Nat.zero_le _, Below.refl _ _, fun j hj => absurd hj (by omega)⟩
    case round =>
      obtain ⟨i, rfl, hi, hB, hE⟩ := hrel
      by_cases hlt : i < n1
      · obtain ⟨b1, e1⟩ := get_lt (l := xs) (i := i) (by rw [← hn1H.out]; exact hlt)
        obtain ⟨b2, e2⟩ := get_lt (l := ys) (i := i) (by rw [← hn2H.out]; exact hlt)
        obtain ⟨bA, oA, rfl, hbA, hcA⟩ := h1H.out.2 (fun e => by rw [e] at e1; simp at e1)
        obtain ⟨bB, oB, rfl, hbB, hcB⟩ := h2H.out.2 (fun e => by rw [e] at e2; simp at e2)
        have k1 := (hB.cell (p := ⟨bA, oA + i * 1 + 0, none⟩) (by show bA < _; omega)).trans (hcA i _ e1 0 (by omega))
        have k2 := (hB.cell (p := ⟨bB, oB + i * 1 + 0, none⟩) (by show bB < _; omega)).trans (hcB i _ e2 0 (by omega))
        simp only [Nat.add_zero, Nat.mul_one, encB] at k1 k2
        have hst := hide (hB.trans ((drewB wr).mono hB.size))
        have he1 := hide e1
        have he2 := hide e2
        clear e1 e2 hcA hcB
        go_wp2_with fail
        refine Reg.cP [0, 0, 3, 7, 0, 0, 48, 112, 255] ?_
        cases b1 <;> cases b2
        all_goals
          go_wp2_with fail
          first
          | (refine ⟨⟨i + 1, by go_num, by omega, hst.out, fun j hj => ?_⟩, by simp [intOf]; omega⟩
             by_cases hji : j = i
             · subst hji
               rw [he1.out, he2.out]
             · exact hE.out j (by omega))
          | (go_ret
             refine ⟨congrArg Value.bool (decide_eq_false fun e => ?_).symm, hst.out⟩
             have h1 := he1.out
             rw [e, he2.out] at h1
             cases h1)
      · go_wp2_with fail
        go_ret
        refine ⟨congrArg Value.bool (decide_eq_true (List.ext_getElem? fun j => ?_)).symm, hB⟩
        by_cases hj : j < n1
        · exact hE.out j (by omega)
        · rw [List.getElem?_eq_none (by rw [← hn1H.out]; omega), List.getElem?_eq_none (by rw [← hn2H.out]; omega)]
  · have hd : ((n1 : Int) == (n2 : Int)) = false := by simp; omega
    go_enter Tryz.func68, Tryz.ntmps68
    go_wp2_with fail
    go_ret
    exact ⟨congrArg Value.bool (decide_eq_false fun e => hne (by rw [hn1H.out, hn2H.out, e])).symm, Below.refl _ _⟩
theorem eqInts_any {w : World} {B1 B2 c1 c2 : Nat} {A1 A2 : Option Addr} {xs ys : List Int} (h1 : Sl w B1 1 encI A1 xs) (h2 : Sl w B2 1 encI A2 ys) (hB1 : B1 ≤ w.heap.size) (hB2 : B2 ≤ w.heap.size) :
  Calls Tryz.prog 70 #[.slice A1 xs.length c1, .slice A2 ys.length c2] w (Ret fun v w' => v = .bool (decide (xs = ys)) ∧ Below w.heap.size w w') := by
 have hl1 := h1.1
 have hl2 := h2.1
 have h1H := hide h1
 have h2H := hide h2
 obtain ⟨n1, hn1⟩ : ∃ n, n = xs.length := ⟨_, rfl⟩
 obtain ⟨n2, hn2⟩ : ∃ n, n = ys.length := ⟨_, rfl⟩
 rw [← hn1] at hl1 ⊢
 rw [← hn2] at hl2 ⊢
 have hn1H := hide hn1
 have hn2H := hide hn2
 clear h1 h2 hn1 hn2
 by_cases hne : n1 = n2
 ·subst hne
  go_enter Tryz.func70, Tryz.ntmps70
  go_wp2_with fail
  go_loopw [13] (fun ii wr => ∃ (i : Nat), ii = .int .i64 (i : Int) ∧ i ≤ n1 ∧ Below w.heap.size w wr ∧ Hid (∀ j, j < i → xs[j]? = ys[j]?)) (fun ii _ => n1 - (intOf ii).toNat)
  case atStart => exact ⟨0, rfl, Nat.zero_le _, Below.refl _ _, fun j hj => absurd hj (by omega)⟩
  case round =>
   obtain ⟨i, rfl, hi, hB, hE⟩ := hrel
   by_cases hlt : i < n1
   ·obtain ⟨b1, e1⟩ := get_lt (l := xs) (i := i) (by rw [← hn1H.out]; exact hlt)
    obtain ⟨b2, e2⟩ := get_lt (l := ys) (i := i) (by rw [← hn2H.out]; exact hlt)
    obtain ⟨bA, oA, rfl, hbA, hcA⟩ := h1H.out.2 (fun e => by rw [e] at e1; simp at e1)
    obtain ⟨bB, oB, rfl, hbB, hcB⟩ := h2H.out.2 (fun e => by rw [e] at e2; simp at e2)
    have k1 := (hB.cell (p := ⟨bA, oA + i * 1 + 0, none⟩) (by show bA < _; omega)).trans (hcA i _ e1 0 (by omega))
    have k2 := (hB.cell (p := ⟨bB, oB + i * 1 + 0, none⟩) (by show bB < _; omega)).trans (hcB i _ e2 0 (by omega))
    simp only [Nat.add_zero, Nat.mul_one, encI] at k1 k2
    have hst := hide (hB.trans ((drewB wr).mono hB.size))
    have he1 := hide e1
    have he2 := hide e2
    clear e1 e2 hcA hcB
    by_cases hbb : b1 = b2
    ·subst hbb
     have hd : (b1 == b1) = true := by simp
     go_wp2_with fail
     refine Reg.cP [0, 0, 3, 7, 0, 0, 48, 112, 255] ?_
     go_wp2_with fail
     refine ⟨⟨i + 1, by go_num, by omega, hst.out, fun j hj => ?_⟩, by simp [intOf]; omega⟩
     by_cases hji : j = i
     ·subst hji
      rw [he1.out, he2.out]
     ·exact hE.out j (by omega)
    ·have hd : (b1 == b2) = false := by simpa using hbb
     have hbbH := hide hbb
     clear hbb
     go_wp2_with fail
     refine Reg.cP [0, 0, 3, 7, 0, 0, 48, 112, 255] ?_
     go_wp2_with fail
     go_ret
     refine ⟨congrArg Value.bool (decide_eq_false fun e => ?_).symm, hst.out⟩
     have h1 := he1.out
     rw [e, he2.out] at h1
     exact hbbH.out (Option.some.inj h1).symm
   ·go_wp2_with fail
    go_ret
    refine ⟨congrArg Value.bool (decide_eq_true (List.ext_getElem? fun j => ?_)).symm, hB⟩
    by_cases hj : j < n1
    ·exact hE.out j (by omega)
    ·rw [List.getElem?_eq_none (by rw [← hn1H.out]; omega), List.getElem?_eq_none (by rw [← hn2H.out]; omega)]
 ·have hd : ((n1 : Int) == (n2 : Int)) = false := by simp; omega
  go_enter Tryz.func70, Tryz.ntmps70
  go_wp2_with fail
  go_ret
  exact ⟨congrArg Value.bool (decide_eq_false fun e => hne (by rw [hn1H.out, hn2H.out, e])).symm, Below.refl _ _⟩
end Go.Proofs.YtakpmdmjbgipiaaGreatDoor
namespace Go.Proofs.YtakpmdmjbgipiaaGreatDoor
open Go.RowKit
set_option maxHeartbeats 16000000
set_option maxRecDepth 100000
theorem eqRows_any {w : World} {B1 B2 c1 c2 : Nat} {A1 A2 : Option Addr} {xs ys : List (List Nat)} (h1 : VSl R1n w B1 A1 xs) (h2 : VSl R1n w B2 A2 ys) (hB1 : B1 ≤ w.heap.size) (hB2 : B2 ≤ w.heap.size) :
  Calls Tryz.prog 69 #[.slice A1 xs.length c1, .slice A2 ys.length c2, .func (.func 70) #[] #[]] w (Ret fun v w' => v = .bool (decide (xs = ys)) ∧ Below w.heap.size w w') := by
 have hl1 := h1.1
 have hl2 := h2.1
 have h1H := hide h1
 have h2H := hide h2
 obtain ⟨n1, hn1⟩ : ∃ n, n = xs.length := ⟨_, rfl⟩
 obtain ⟨n2, hn2⟩ : ∃ n, n = ys.length := ⟨_, rfl⟩
 rw [← hn1] at hl1 ⊢
 rw [← hn2] at hl2 ⊢
 have hn1H := hide hn1
 have hn2H := hide hn2
 clear h1 h2 hn1 hn2
 by_cases hne : n1 = n2
 ·subst hne
  go_enter Tryz.func69, Tryz.ntmps69
  go_wp2_with fail
  go_loopw [17] (fun ii wr => ∃ (i : Nat), ii = .int .i64 (i : Int) ∧ i ≤ n1 ∧ Below w.heap.size w wr ∧ Hid (∀ j, j < i → xs[j]? = ys[j]?)) (fun ii _ => n1 - (intOf ii).toNat)
  case atStart => exact ⟨0, rfl, Nat.zero_le _, Below.refl _ _, fun j hj => absurd hj (by omega)⟩
  case round =>
   obtain ⟨i, rfl, hi, hB, hE⟩ := hrel
   by_cases hlt : i < n1
   ·obtain ⟨r1, e1⟩ := get_lt (l := xs) (i := i) (by rw [← hn1H.out]; exact hlt)
    obtain ⟨r2, e2⟩ := get_lt (l := ys) (i := i) (by rw [← hn2H.out]; exact hlt)
    obtain ⟨bA, oA, v1, rfl, hbA, k1, D1, d1, rfl, hS1⟩ := h1H.out.at e1
    obtain ⟨bB, oB, v2, rfl, hbB, k2, D2, d2, rfl, hS2⟩ := h2H.out.at e2
    have q1 := (hB.cell (p := ⟨bA, oA + i, none⟩) (by show bA < _; omega)).trans k1
    have q2 := (hB.cell (p := ⟨bB, oB + i, none⟩) (by show bB < _; omega)).trans k2
    have hsz := hB.size
    have hBH := hide hB
    have hcall := eqInts_any (w := wr) (c1 := d1) (c2 := d2) (hS1.keep (w' := wr) (fun p hp => hB.cell (by show p.block < _; omega)) (Nat.le_refl _)) (hS2.keep (w' := wr) (fun p hp => hB.cell (by show p.block < _; omega)) (Nat.le_refl _)) (by omega) (by omega)
    have he1 := hide e1
    have he2 := hide e2
    clear e1 e2 k1 k2 hS1 hS2 hB
    by_cases hrr : r1 = r2
    ·rw [decide_eq_true (show natL r1 = natL r2 by rw [hrr])] at hcall
     have hrrH := hide hrr
     clear hrr
     go_wp2_with fail
     refine Calls.ret hcall ?_
     rintro v w3 ⟨rfl, hb3⟩
     have hst := hide (hBH.out.trans (hb3.mono hBH.out.size))
     clear hcall hb3
     go_wp2_with fail
     refine ⟨⟨i + 1, by go_num, by omega, hst.out, fun j hj => ?_⟩, by simp [intOf]; omega⟩
     by_cases hji : j = i
     ·subst hji
      rw [he1.out, he2.out, hrrH.out]
     ·exact hE.out j (by omega)
    ·rw [decide_eq_false (show ¬ natL r1 = natL r2 from fun e => hrr (natL_inj e))] at hcall
     have hrrH := hide hrr
     clear hrr
     go_wp2_with fail
     refine Calls.ret hcall ?_
     rintro v w3 ⟨rfl, hb3⟩
     have hst := hide (hBH.out.trans (hb3.mono hBH.out.size))
     clear hcall hb3
     go_wp2_with fail
     go_ret
     refine ⟨congrArg Value.bool (decide_eq_false fun e => ?_).symm, hst.out⟩
     have h1 := he1.out
     rw [e, he2.out] at h1
     exact hrrH.out (Option.some.inj h1).symm
   ·go_wp2_with fail
    go_ret
    refine ⟨congrArg Value.bool (decide_eq_true (List.ext_getElem? fun j => ?_)).symm, hB⟩
    by_cases hj : j < n1
    ·exact hE.out j (by omega)
    ·rw [List.getElem?_eq_none (by rw [← hn1H.out]; omega), List.getElem?_eq_none (by rw [← hn2H.out]; omega)]
 ·have hd : ((n1 : Int) == (n2 : Int)) = false := by simp; omega
  go_enter Tryz.func69, Tryz.ntmps69
  go_wp2_with fail
  go_ret
  exact ⟨congrArg Value.bool (decide_eq_false fun e => hne (by rw [hn1H.out, hn2H.out, e])).symm, Below.refl _ _⟩
theorem equal_any {w : World} {v1 v2 : Value} {t u : List (List Nat)} {ac bc : List Bool} (h1 : IsDF w w.heap.size v1 t ac) (h2 : IsDF w w.heap.size v2 u bc) :
  Calls Tryz.prog 41 #[v1, v2] w (Ret fun v w' => v = .bool (decide (t = u ∧ ac = bc)) ∧ Below w.heap.size w w') := by
 obtain ⟨A1, c1, A2, c2, rfl, hN1, hA1⟩ := h1
 obtain ⟨D1, d1, D2, d2, rfl, hN2, hA2⟩ := h2
 obtain ⟨w1, hw1, hb1, hB1, hk1⟩ := box_blk w #[.slice A1 t.length c1, .slice A2 ac.length c2] 52
 obtain ⟨w2, hw2, hb2, hB2, hk2⟩ := box_blk w1 #[.slice D1 u.length d1, .slice D2 bc.length d2] 52
 have s1 := hb1.size
 have b02 := hide (hb1.trans (hb2.mono s1))
 have hx2 := hide (hB1.below hb2)
 have hy2 := hide hB2
 have f1 := hx2.out.cell
 have f2 := hy2.out.cell
 have hcA := eqBools_any (w := w2) (c1 := c2) (c2 := d2) (hA1.keep (w' := w2) (fun p hp => b02.out.cell hp) (Nat.le_refl _)) (hA2.keep (w' := w2) (fun p hp => b02.out.cell hp) (Nat.le_refl _)) b02.out.size b02.out.size
 have hN := hide (fun (wx : World) (hb : Below w.heap.size w wx) => eqRows_any (w := wx) (c1 := c1) (c2 := d1) (VSl.keep (@R1n.keep) hN1 (w' := wx) (fun p hp => hb.cell hp) (Nat.le_refl _)) (VSl.keep (@R1n.keep) hN2 (w' := wx) (fun p hp => hb.cell hp) (Nat.le_refl _)) hb.size hb.size)
 have hl1 := hN1.1
 have hl2 := hN2.1
 have hl3 := hA1.1
 have hl4 := hA2.1
 obtain ⟨b, hb⟩ : ∃ b, decide (ac = bc) = b := ⟨_, rfl⟩
 obtain ⟨x, hx⟩ : ∃ x, decide (t = u) = x := ⟨_, rfl⟩
 have hdec : decide (t = u ∧ ac = bc) = (b && x) := by
  rw [← hb, ← hx, Bool.decide_and, Bool.and_comm]
 rw [hdec]
 rw [hb] at hcA
 rw [hx] at hN
 generalize t.length = lt at *
 generalize u.length = lu at *
 generalize ac.length = la at *
 generalize bc.length = lb at *
 clear hb1 hB1 hk1 hb2 hB2 hk2 hN1 hN2 hA1 hA2 hb hx hdec
 cases b
 ·go_enter Tryz.func41, Tryz.ntmps41
  go_wp2_with fail
  refine Calls.ret hcA ?_
  rintro v w3 ⟨rfl, hb3⟩
  have b03 := hide (b02.out.trans (hb3.mono b02.out.size))
  clear hcA hb3 f1 f2
  go_wp2_with fail
  go_ret
  exact ⟨by simp, b03.out⟩
 ·go_enter Tryz.func41, Tryz.ntmps41
  go_wp2_with fail
  refine Calls.ret hcA ?_
  rintro v w3 ⟨rfl, hb3⟩
  have b03 := hide (b02.out.trans (hb3.mono b02.out.size))
  have g1 := (hx2.out.below (hb3.mono (Nat.le_refl _))).cell
  have g2 := (hy2.out.below (hb3.mono (Nat.le_refl _))).cell
  have hcall := hN.out w3 b03.out
  clear hcA hb3 f1 f2
  go_wp2_with fail
  refine Calls.ret hcall ?_
  rintro v w4 ⟨rfl, hb4⟩
  have b04 := hide (b03.out.trans (hb4.mono b03.out.size))
  clear hcall hb4 g1 g2
  go_wp2_with fail
  go_ret
  exact ⟨by simp, b04.out⟩
end Go.Proofs.YtakpmdmjbgipiaaGreatDoor
namespace Go.Proofs.YtakpmdmjbgipiaaGreatDoor
open Go.RowKit
set_option maxHeartbeats 16000000
set_option maxRecDepth 100000
def BigJ (a b : WA) : Prop := a.nf.Large 400 ∨ b.nf.Large 400 ∨ ∃ t ac u bc, CanT a.L t ac a.lang ∧ CanT b.L u bc b.lang ∧ 400 < ac.length * bc.length
def CombRet (op : Bool → Bool → Bool) (w : World) (a b : WA) (v : Value) (w' : World) : Prop :=
 Below w.heap.size w w' ∧ ((a.both b = false ∧ v = .tuple #[.agg zero25, .int .i64 1]) ∨ (a.both b = true ∧ BigJ a b ∧ v = .tuple #[.agg zero25, .int .i64 4]) ∨
  (a.both b = true ∧ ¬ BigJ a b ∧ ∃ t ac d, CanT a.L t ac (fun z => op (a.lang z) (b.lang z)) ∧ ac.length ≤ 400 ∧ v = .tuple #[d, .int .i64 0] ∧ ∀ w'', Kept w' w'' (fun k => k < w.heap.size) → IsWA w'' w''.heap.size d (plainW a.L t ac)))
theorem two_box (w : World) (x0 x1 y0 y1 : Value) : ∃ w5 w6 wA wB, w.alloc (.cells #[sn0, sn0] 52) = w5 ∧ w5.alloc (.cells #[sn0, sn0] 52) = w6 ∧ set2 w6 w.heap.size x0 x1 = wA ∧ set2 wA w5.heap.size y0 y1 = wB ∧ Blk w6 w.heap.size 52 #[sn0, sn0] ∧ Blk wA w5.heap.size 52 #[sn0, sn0] ∧ Blk wB w.heap.size 52 #[x0, x1] ∧ Blk wB w5.heap.size 52 #[y0, y1] ∧ Below w.heap.size w wB ∧ w.heap.size < w5.heap.size := by
 obtain ⟨w5, hw5, hb5, hB5, hk5⟩ := box_blk w #[sn0, sn0] 52
 obtain ⟨w6, hw6, hb6, hB6, hk6⟩ := box_blk w5 #[sn0, sn0] 52
 have l5 := hB5.lt
 have hx := hB5.below hb6
 obtain ⟨wA, hwA, hBA, hKA⟩ := set2_facts hx x0 x1
 have hy := hB6.kept hKA (by omega)
 obtain ⟨wB, hwB, hBB, hKB⟩ := set2_facts hy y0 y1
 have s5 := hb5.size
 have s6 := hb6.size
 have sA := hKA.size
 exact ⟨w5, w6, wA, wB, hw5, hw6, hwA, hwB, hx, hy, hBA.kept hKB (by omega), hBB, ((hb5.trans (hb6.mono s5)).trans (hKA.below (by omega) fun b hb e => by omega)).trans (hKB.below (by omega) fun b hb e => by omega), l5⟩
theorem combine_any {F : Nat} {op : Bool → Bool → Bool} (hF : OpF F op) {vA vB : Value} {a b : WA} {w : World} (hA : IsWA w w.heap.size vA a) (hB : IsWA w w.heap.size vB b) (hea : a.edges.length ≤ 3000000) (hsa : a.start.length ≤ 4000000) (heb : b.edges.length ≤ 3000000) (hsb : b.start.length ≤ 4000000) (hT : PowT w) :
  Calls Tryz.prog 32 #[vA, vB, .func (.func F) #[] #[]] w (Ret fun r w' => CombRet op w a b r w') := by
 have hAH := hide hA
 have hBH := hide hB
 have hTH := hide hT
 obtain ⟨A1, c1, A2, c2, A3, c3, rfl, -⟩ := hA
 obtain ⟨B1, d1, B2, d2, B3, d3, rfl, -⟩ := hB
 obtain ⟨w1, hw1, hb1, hB1, hk1⟩ := box_blk w #[.int .i64 a.letters, .int .i64 a.states, .slice A1 a.start.length c1, .slice A2 a.accept.length c2, .slice A3 a.edges.length c3] 28
 obtain ⟨w2, hw2, hb2, hB2, hk2⟩ := box_blk w1 #[.int .i64 b.letters, .int .i64 b.states, .slice B1 b.start.length d1, .slice B2 b.accept.length d2, .slice B3 b.edges.length d3] 28
 obtain ⟨w3, hw3, hb3, hB3, hk3⟩ := box_blk w2 zero25 28
 have s1 := hb1.size
 have s2 := hb2.size
 have s3 := hb3.size
 have l1 := hB1.lt
 have l2 := hB2.lt
 have l3 := hB3.lt
 have b13 : Below w1.heap.size w1 w3 := hb2.trans (hb3.mono s2)
 have b03 := hide (hb1.trans (b13.mono s1))
 have hBa3 := hide (hB1.below b13)
 have hBb3 := hide (hB2.below hb3)
 have hBr3 := hide hB3
 have f1 := hBa3.out.cell
 have f2 := hBb3.out.cell
 have hpair := pair_any (hAH.out.keep (w' := w3) (fun p hp => b03.out.cell hp) b03.out.size) (hBH.out.keep (w' := w3) (fun p hp => b03.out.cell hp) b03.out.size) hea hsa heb hsb (hTH.out.below b03.out)
 clear hk1 hk2 hk3 hB1 hB2 hB3 hb1 hb2 hb3 b13 hT
 go_enter Tryz.func32, Tryz.ntmps32
 go_wp2_with fail
 refine Calls.ret hpair ?_
 rintro r w4 ⟨hb4, hcase⟩
 have s4 := hb4.size
 have b04 := hide (b03.out.trans (hb4.mono b03.out.size))
 have hBa4 := hide (hBa3.out.below hb4)
 have hBr4 := hide (hBr3.out.below hb4)
 have bs := b04.out.size
 clear hpair f1 f2
 rcases hcase with ⟨hbo, rfl⟩ | ⟨hbo, hbig, x0, x1, y0, y1, e0, e1, e2, e3, rfl⟩ | ⟨hbo, hla, hlb, t, ac, u, bc, x0, x1, y0, y1, hCa, hCb, hac, hbc, rfl, hD⟩
 ·have hboH := hide hbo
  obtain ⟨w5, w6, wA, wB, hw5, hw6, hwA, hwB, hx6, hyA, hxB, hyB, hbB, l5⟩ := two_box w4 (sn0) (sn0) (sn0) (sn0)
  have bsB := hbB.size
  have b0B := hide (b04.out.trans (hbB.mono b04.out.size))
  have hBrB := hBr4.out.below hbB
  have hBaB := hide (hBa4.out.below hbB)
  have i1 := hx6.frozen
  have i2 := hx6.lt
  have i3 := hx6.cell
  have i4 := hyA.frozen
  have i5 := hyA.lt
  have i6 := hyA.cell
  have i7 := hxB.cell
  have i8 := hyB.cell
  obtain ⟨wF, hwF, hBF, hKF⟩ := set5_facts hBrB (.int .i64 0) (.int .i64 0) sn0 sn0 sn0
  have j1 := hBrB.frozen
  have j2 := hBrB.lt
  have j3 := hBrB.cell
  have j4 := hBF.cell
  have hbF := hide (b0B.out.trans (hKF.below (by have := b0B.out.size; omega) fun b hb e => by omega))
  unfold set2 at hwA hwB
  unfold set5 at hwF
  clear hb4 hx6 hyA hxB hyB hbB hBrB hBF hKF
  go_wp2_with fail
  refine bodyPost_ret (v := .tuple #[.agg zero25, .int .i64 1]) (by simp [results, Tryz.results32, go_sem, j4]) rfl ⟨hbF.out, .inl ⟨hboH.out, rfl⟩⟩
 ·obtain ⟨P1, n1, p1, rfl⟩ := e0
  obtain ⟨P2, n2, p2, rfl⟩ := e1
  obtain ⟨P3, n3, p3, rfl⟩ := e2
  obtain ⟨P4, n4, p4, rfl⟩ := e3
  have hboH := hide hbo
  have hbigH := hide hbig
  clear hbig
  obtain ⟨w5, w6, wA, wB, hw5, hw6, hwA, hwB, hx6, hyA, hxB, hyB, hbB, l5⟩ := two_box w4 (.slice P1 n1 p1) (.slice P2 n2 p2) (.slice P3 n3 p3) (.slice P4 n4 p4)
  have bsB := hbB.size
  have b0B := hide (b04.out.trans (hbB.mono b04.out.size))
  have hBrB := hBr4.out.below hbB
  have hBaB := hide (hBa4.out.below hbB)
  have i1 := hx6.frozen
  have i2 := hx6.lt
  have i3 := hx6.cell
  have i4 := hyA.frozen
  have i5 := hyA.lt
  have i6 := hyA.cell
  have i7 := hxB.cell
  have i8 := hyB.cell
  obtain ⟨wF, hwF, hBF, hKF⟩ := set5_facts hBrB (.int .i64 0) (.int .i64 0) sn0 sn0 sn0
  have j1 := hBrB.frozen
  have j2 := hBrB.lt
  have j3 := hBrB.cell
  have j4 := hBF.cell
  have hbF := hide (b0B.out.trans (hKF.below (by have := b0B.out.size; omega) fun b hb e => by omega))
  unfold set2 at hwA hwB
  unfold set5 at hwF
  clear hb4 hx6 hyA hxB hyB hbB hBrB hBF hKF
  go_wp2_with fail
  refine bodyPost_ret (v := .tuple #[.agg zero25, .int .i64 4]) (by simp [results, Tryz.results32, go_sem, j4]) rfl ⟨hbF.out, .inr (.inl ⟨hboH.out, hbigH.out.elim .inl fun h => .inr (.inl h), rfl⟩)⟩
 ·obtain ⟨⟨P1, p1, P2, p2, e1, -, -⟩, P3, p3, P4, p4, e2, -, -⟩ := hD w4 (Kept.refl _ _)
  injection e1 with e1
  injection e2 with e2
  simp only [Array.mk.injEq, List.cons.injEq, and_true] at e1 e2
  obtain ⟨rfl, rfl⟩ := e1
  obtain ⟨rfl, rfl⟩ := e2
  obtain ⟨oka, okb, hle⟩ := WA.both_iff.1 hbo
  have hLL : b.L = a.L := by unfold WA.L; rw [hle]
  have hL8 : a.L ≤ 8 := by have := (WA.ok_iff.1 oka).1; unfold WA.L; omega
  have hlet : a.letters = (a.L : Int) := by have := (WA.ok_iff.1 oka).1; unfold WA.L; omega
  rw [hLL] at hCb
  have htl := hCa.ok.len
  have hul := hCb.ok.len
  rw [htl, hul] at hD ⊢
  obtain ⟨na, hna⟩ : ∃ na, na = ac.length := ⟨_, rfl⟩
  obtain ⟨nb, hnb⟩ : ∃ nb, nb = bc.length := ⟨_, rfl⟩
  rw [← hna, ← hnb] at hD ⊢
  have hboH := hide hbo
  have hDH := hide hD
  have hCaH := hide hCa
  have hCbH := hide hCb
  have hlaH := hide hla
  have hlbH := hide hlb
  have hnaH := hide hna
  have hnbH := hide hnb
  have hn1 : na ≤ 400 := by omega
  have hn2 : nb ≤ 400 := by omega
  have hmul : na * nb ≤ 160000 := Nat.mul_le_mul hn1 hn2
  have hmulI : (na : Int) * (nb : Int) = ((na * nb : Nat) : Int) := by rw [Int.natCast_mul]
  obtain ⟨nm, hnm⟩ : ∃ nm, nm = na * nb := ⟨_, rfl⟩
  rw [← hnm] at hmul hmulI
  have hnmH := hide hnm
  have hletH := hide hlet
  have hbigI := hide (show BigJ a b ↔ 400 < nm from by
   constructor
   ·rintro (h | h | ⟨t2, ac2, u2, bc2, k1, k2, k3⟩)
    ·exact (hla h).elim
    ·exact (hlb h).elim
    ·rw [hLL] at k2
     obtain ⟨-, rfl⟩ := k1.unique hCa fun _ _ => rfl
     obtain ⟨-, rfl⟩ := k2.unique hCb fun _ _ => rfl
     rw [hnm, hna, hnb]; exact k3
   ·intro h
    exact .inr (.inr ⟨t, ac, u, bc, hCa, by rw [hLL]; exact hCb, by rw [← hna, ← hnb, ← hnm]; exact h⟩))
  clear hbo hD hCa hCb hla hlb hna hnb hac hbc htl hul hnm oka okb hle hlet
  obtain ⟨w5, w6, wA, wB, hw5, hw6, hwA, hwB, hx6, hyA, hxB, hyB, hbB, l5⟩ := two_box w4 (.slice P1 na p1) (.slice P2 na p2) (.slice P3 nb p3) (.slice P4 nb p4)
  have bsB := hbB.size
  have b0B := hide (b04.out.trans (hbB.mono b04.out.size))
  have hBrB := hBr4.out.below hbB
  have hBaB := hide (hBa4.out.below hbB)
  have i1 := hx6.frozen
  have i2 := hx6.lt
  have i3 := hx6.cell
  have i4 := hyA.frozen
  have i5 := hyA.lt
  have i6 := hyA.cell
  have i7 := hxB.cell
  have i8 := hyB.cell
  by_cases hbig : 400 < nm
  ·have hbg := hide (hbigI.out.2 hbig)
   obtain ⟨wF, hwF, hBF, hKF⟩ := set5_facts hBrB (.int .i64 0) (.int .i64 0) sn0 sn0 sn0
   have j1 := hBrB.frozen
   have j2 := hBrB.lt
   have j3 := hBrB.cell
   have j4 := hBF.cell
   have hbF := hide (b0B.out.trans (hKF.below (by have := b0B.out.size; omega) fun b hb e => by omega))
   unfold set2 at hwA hwB
   unfold set5 at hwF
   clear hb4 hx6 hyA hxB hyB hbB hBrB hBF hKF
   go_wp2_with fail
   refine bodyPost_ret (v := .tuple #[.agg zero25, .int .i64 4]) (by simp [results, Tryz.results32, go_sem, j4]) rfl ⟨hbF.out, .inr (.inl ⟨hboH.out, hbg.out, rfl⟩)⟩
  ·have hnbg := hide (fun h => hbig (hbigI.out.1 h))
   have k1 := hBaB.out.cell
   have hDB := hDH.out wB.drew (((Kept.of_below hbB (fun _ => False)).trans (Kept.of_below (drewB wB) (fun _ => False)) fun _ _ e => e.elim).mono fun _ _ e => e.elim)
   have bdB := hide (b0B.out.trans ((drewB wB).mono b0B.out.size))
   have hpr := product_any hF hDB.1 hDB.2 hCaH.out.ok hCbH.out.ok hL8 (by rw [← hnaH.out, ← hnbH.out, ← hnmH.out]; omega) (hTH.out.below bdB.out)
   have hBrH := hide hBrB
   unfold set2 at hwA hwB
   clear hb4 hx6 hyA hxB hyB hbB hDB hBrB
   go_wp2_with fail
   refine Reg.cC [0, 0, 0, 7, 0, 16, 63, 127, 255] [0, 1, 2, 4, 5, 3, 6, 7, 8] ?_
   refine Reg.rest_walk' [0, 1, 2, 4, 5] [3, 6, 7, 8] rfl (by kernel_rfl) ?_
   intro Qf hQf
   go_wp2_with fail
   first | refine hQf _ _ ?_ | skip
   try clear hQf
   refine Reg.rest_act' 3 [6, 7, 8] [5] rfl (by kernel_rfl) ?_
   intro Qf hQf
   simp only [gT, gS, gZ]
   go_wp2_with fail
   refine Calls.ret hpr ?_
   rintro d w7 ⟨hb7, t', ac', hC', hacl, hD'⟩
   have b07 := hide (bdB.out.trans (hb7.mono bdB.out.size))
   have hau := automaton_any (hD' w7 (Kept.refl _ _)) hC'.ok hL8 (by rw [← hnaH.out, ← hnbH.out, ← hnmH.out] at hacl; omega)
   rw [← hletH.out] at hau
   have hCC := hide (hC'.congr (Λ' := fun z => op (a.lang z) (b.lang z)) fun z hz => by
    show op (a.lang z) (b.lang z) = op (langT t ac z) (langT u bc z)
    rw [show langT t ac z = a.lang z from hCaH.out.can.lang z hz, show langT u bc z = b.lang z from hCbH.out.can.lang z hz])
   have hacl2 : Hid (ac'.length ≤ 400) := by
    show _ ≤ _
    rw [← hnaH.out, ← hnbH.out, ← hnmH.out] at hacl
    omega
   have s7 := hb7.size
   have hBr7 := hide ((hBrH.out.below (drewB wB)).below hb7)
   go_wp2_with fail
   first | refine hQf _ _ ⟨Reg.same_below hb7 [5] rfl, ?_⟩ | refine ⟨Reg.same_below hb7 [5] rfl, ?_⟩
   try clear hQf
   clear hpr hb7 hD' hC' hacl
   refine Reg.rest_act' 6 [7, 8] [] rfl (by kernel_rfl) ?_
   intro Qf hQf
   simp only [gT, gS, gZ]
   go_wp2_with fail
   refine Calls.ret hau ?_
   rintro d8 w8 ⟨hb8, hI⟩
   obtain ⟨m, hm⟩ : ∃ m, m = plainW a.L t' ac' := ⟨_, rfl⟩
   rw [← hm] at hI
   have hmH := hide hm
   obtain ⟨E1, h1, E2, h2, E3, h3, rfl, -⟩ := hI w8 (Kept.refl _ _)
   have b08 := hide (b07.out.trans (hb8.mono b07.out.size))
   have hBr8 := hBr7.out.below hb8
   have s8 := hb8.size
   have sB := (drewB wB).size
   obtain ⟨wF, hwF, hBF, hKF⟩ := set5_facts hBr8 (.int .i64 m.letters) (.int .i64 m.states) (.slice E1 m.start.length h1) (.slice E2 m.accept.length h2) (.slice E3 m.edges.length h3)
   have j1 := hBr8.frozen
   have j2 := hBr8.lt
   have j3 := hBr8.cell
   have j4 := hBF.cell
   have hbF := hide (b08.out.trans (hKF.below (by have := b08.out.size; omega) fun b hb e => by omega))
   have hfin := hide (fun w'' (hk : Kept wF w'' (fun k => k < w.heap.size)) => hI w'' ((hKF.mono fun b _ e => by omega).trans hk fun b _ e => by omega))
   unfold set5 at hwF
   clear hau hm hI hb8 hBr8 hBF hKF
   go_wp2_with fail
   first | refine hQf _ _ ⟨Reg.nm, ?_⟩ | refine ⟨Reg.nm, ?_⟩
   try clear hQf
   refine Reg.rest_act' 7 [8] [] rfl (by kernel_rfl) ?_
   intro Qf hQf
   simp only [gT, gS, gZ]
   go_wp2_with fail
   first | refine hQf _ _ ⟨Reg.nm, ?_⟩ | refine ⟨Reg.nm, ?_⟩
   try clear hQf
   refine Reg.rest_walk' [8] [] rfl (by kernel_rfl) ?_
   intro Qf hQf
   go_wp2_with fail
   first | refine hQf _ _ ?_ | skip
   try clear hQf
   refine Reg.rest_end ?_
   go_wp2_with fail
   refine bodyPost_ret (v := .tuple #[.agg #[.int .i64 m.letters, .int .i64 m.states, .slice E1 m.start.length h1, .slice E2 m.accept.length h2, .slice E3 m.edges.length h3], .int .i64 0]) (by simp [results, Tryz.results32, go_sem, j4]) rfl ⟨hbF.out, .inr (.inr ⟨hboH.out, hnbg.out, t', ac', _, hCC.out, hacl2.out, rfl, by rw [← hmH.out]; exact hfin.out⟩)⟩
end Go.Proofs.YtakpmdmjbgipiaaGreatDoor
namespace Go.Proofs.YtakpmdmjbgipiaaGreatDoor
open Go.RowKit
set_option maxHeartbeats 16000000
set_option maxRecDepth 100000
def pErr (a b : WA) (e : Int) : Prop := (a.both b = false ∧ e = 1) ∨ (a.both b = true ∧ (a.nf.Large 400 ∨ b.nf.Large 400) ∧ e = 4) ∨ (a.both b = true ∧ ¬ a.nf.Large 400 ∧ ¬ b.nf.Large 400 ∧ e = 0)
theorem PairRet.split {w w' : World} {a b : WA} {r : Value} (h : PairRet w a b r w') : Below w.heap.size w w' ∧ ∃ (x0 x1 y0 y1 : Value) (e : Int), Sl0 x0 ∧ Sl0 x1 ∧ Sl0 y0 ∧ Sl0 y1 ∧ r = .tuple #[.agg #[x0, x1], .agg #[y0, y1], .int .i64 e] ∧ pErr a b e ∧
  (e = 0 → ∃ t ac u bc, CanT a.L t ac a.lang ∧ CanT b.L u bc b.lang ∧ ac.length ≤ 400 ∧ bc.length ≤ 400 ∧ IsDF w' w'.heap.size (.agg #[x0, x1]) t ac ∧ IsDF w' w'.heap.size (.agg #[y0, y1]) u bc) := by
 have hs : Sl0 sn0 := ⟨_, _, _, rfl⟩
 obtain ⟨hb, ⟨h1, rfl⟩ | ⟨h1, h2, x0, x1, y0, y1, e0, e1, e2, e3, rfl⟩ | ⟨h1, h2, h3, t, ac, u, bc, x0, x1, y0, y1, hC, hD, hac, hbc, rfl, hI⟩⟩ := h
 ·exact ⟨hb, _, _, _, _, 1, hs, hs, hs, hs, rfl, .inl ⟨h1, rfl⟩, fun h => by omega⟩
 ·exact ⟨hb, x0, x1, y0, y1, 4, e0, e1, e2, e3, rfl, .inr (.inl ⟨h1, h2, rfl⟩), fun h => by omega⟩
 ·obtain ⟨i1, i2⟩ := hI w' (Kept.refl _ _)
  obtain ⟨A1, k1, A2, k2, q1, -⟩ := id i1
  obtain ⟨D1, k3, D2, k4, q2, -⟩ := id i2
  injection q1 with q1
  injection q2 with q2
  simp only [Array.mk.injEq, List.cons.injEq, and_true] at q1 q2
  exact ⟨hb, x0, x1, y0, y1, 0, ⟨_, _, _, q1.1⟩, ⟨_, _, _, q1.2⟩, ⟨_, _, _, q2.1⟩, ⟨_, _, _, q2.2⟩, rfl, .inr (.inr ⟨h1, h2, h3, rfl⟩), fun _ => ⟨t, ac, u, bc, hC, hD, hac, hbc, i1, i2⟩⟩
def SameRet (w : World) (a b : WA) (r : Value) (w' : World) : Prop :=
 Below w.heap.size w w' ∧ ∃ (x : Bool) (e : Int), r = .tuple #[.bool x, .int .i64 e] ∧ pErr a b e ∧ (e ≠ 0 → x = false) ∧ (e = 0 → (x = true ↔ ∀ z, okW a.L z → a.lang z = b.lang z))
theorem Same_any {vA vB : Value} {a b : WA} {w : World} (hA : IsWA w w.heap.size vA a) (hB : IsWA w w.heap.size vB b) (hea : a.edges.length ≤ 3000000) (hsa : a.start.length ≤ 4000000) (heb : b.edges.length ≤ 3000000) (hsb : b.start.length ≤ 4000000) (hT : PowT w) :
  Calls Tryz.prog 18 #[vA, vB] w (Ret fun r w' => SameRet w a b r w') := by
 have hAH := hide hA
 have hBH := hide hB
 obtain ⟨A1, c1, A2, c2, A3, c3, rfl, -⟩ := hA
 obtain ⟨B1, d1, B2, d2, B3, d3, rfl, -⟩ := hB
 obtain ⟨w1, hw1, hb1, hB1, hk1⟩ := box_blk w #[.int .i64 a.letters, .int .i64 a.states, .slice A1 a.start.length c1, .slice A2 a.accept.length c2, .slice A3 a.edges.length c3] 28
 obtain ⟨w2, hw2, hb2, hB2, hk2⟩ := box_blk w1 #[.int .i64 b.letters, .int .i64 b.states, .slice B1 b.start.length d1, .slice B2 b.accept.length d2, .slice B3 b.edges.length d3] 28
 have s1 := hb1.size
 have b02 := hide (hb1.trans (hb2.mono s1))
 have f1 := (hB1.below hb2).cell
 have f2 := hB2.cell
 have hpair := pair_any (hAH.out.keep (w' := w2) (fun p hp => b02.out.cell hp) b02.out.size) (hBH.out.keep (w' := w2) (fun p hp => b02.out.cell hp) b02.out.size) hea hsa heb hsb (hT.below b02.out)
 clear hk1 hk2 hB1 hB2 hb1 hb2 hT
 go_enter Tryz.func18, Tryz.ntmps18
 go_wp2_with fail
 refine Calls.ret hpair ?_
 intro r w4 hret
 obtain ⟨hb4, x0, x1, y0, y1, e, ⟨P1, n1, p1, rfl⟩, ⟨P2, n2, p2, rfl⟩, ⟨P3, n3, p3, rfl⟩, ⟨P4, n4, p4, rfl⟩, rfl, he, hok⟩ := hret.split
 have b04 := hide (b02.out.trans (hb4.mono b02.out.size))
 have heH := hide he
 have hokH := hide hok
 obtain ⟨w5, w6, wA, wB, hw5, hw6, hwA, hwB, hx6, hyA, hxB, hyB, hbB, l5⟩ := two_box w4 (.slice P1 n1 p1) (.slice P2 n2 p2) (.slice P3 n3 p3) (.slice P4 n4 p4)
 have b0B := hide (b04.out.trans (hbB.mono b04.out.size))
 have hbBH := hide hbB
 have i1 := hx6.frozen
 have i2 := hx6.lt
 have i3 := hx6.cell
 have i4 := hyA.frozen
 have i5 := hyA.lt
 have i6 := hyA.cell
 have i7 := hxB.cell
 have i8 := hyB.cell
 unfold set2 at hwA hwB
 clear hpair hret hb4 f1 f2 hx6 hyA hxB hyB hbB he hok
 by_cases hz : e = 0
 ·subst hz
  obtain ⟨t, ac, u, bc, hC, hD, hac, hbc, hI1, hI2⟩ := hokH.out rfl
  have hcall := equal_any (hI1.keep (w' := wB) (fun p hp => hbBH.out.cell hp) hbBH.out.size) (hI2.keep (w' := wB) (fun p hp => hbBH.out.cell hp) hbBH.out.size)
  have hiff : Hid ((decide (t = u ∧ ac = bc) = true) ↔ ∀ z, okW a.L z → a.lang z = b.lang z) := by
   show _ ↔ _
   rw [decide_eq_true_iff]
   rcases heH.out with ⟨-, h⟩ | ⟨-, -, h⟩ | ⟨hbo, -⟩
   ·omega
   ·omega
   obtain ⟨oka, okb, hle⟩ := WA.both_iff.1 hbo
   have hLL : b.L = a.L := by unfold WA.L; rw [hle]
   rw [hLL] at hD
   constructor
   ·rintro ⟨rfl, rfl⟩ z hz
    rw [← hC.can.lang z hz, hD.can.lang z hz]
   ·intro h
    exact hC.unique hD h
  obtain ⟨x, hx⟩ : ∃ x, x = decide (t = u ∧ ac = bc) := ⟨_, rfl⟩
  rw [← hx] at hcall hiff
  clear hC hD hac hbc hI1 hI2 hx
  go_wp2_with fail
  refine Calls.ret hcall ?_
  rintro r w8 ⟨rfl, hb8⟩
  have b08 := hide (b0B.out.trans (hb8.mono b0B.out.size))
  clear hcall hb8
  go_wp2_with fail
  refine bodyPost_ret (v := .tuple #[.bool x, .int .i64 0]) (by simp [results, Tryz.results18, go_sem]) rfl ?_
  exact ⟨b08.out, x, 0, rfl, heH.out, fun h => (h rfl).elim, fun _ => hiff.out⟩
 ·have hz2 : (e == 0) = false := by simpa using hz
  go_wp2_with fail
  refine bodyPost_ret (v := .tuple #[.bool false, .int .i64 e]) (by simp [results, Tryz.results18, go_sem]) rfl ?_
  exact ⟨b0B.out, false, e, rfl, heH.out, fun _ => rfl, fun h => (hz h).elim⟩
end Go.Proofs.YtakpmdmjbgipiaaGreatDoor
