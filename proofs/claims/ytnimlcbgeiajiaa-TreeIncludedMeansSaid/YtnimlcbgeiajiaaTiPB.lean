/-
  slices.Equal of marks and of numbers: the walks.
  machine.equal: the walk.
-/
import Derived.Test.YtnimlcbgeiajiaaTiP5

namespace Go.Proofs.Ytnimlcbgeiajiaa
open Go.RowKit

set_option maxHeartbeats 4000000 in
set_option maxRecDepth 100000 in
theorem eqB_any {w : World} {base base' n m c c' : Nat} {A A' : Option Addr} {xs ys : List Bool} (h : w.ownsRow base 4 1 (.slice A n c) n (xs.map Value.bool)) (h' : w.ownsRow base' 4 1 (.slice A' m c') m (ys.map Value.bool)) (hn : xs.length = n) (hm : ys.length = m) (hn0 : n ≤ 100000) (hm0 : m ≤ 100000) :
    Calls Try.prog 96 #[.slice A n c, .slice A' m c'] w (Ret fun r w' => r = .bool (decide (xs = ys)) ∧ Below w.heap.size w w') := by
  have hH := hide h
  have hH' := hide h'
  have hN := hide hn
  have hM := hide hm
  clear h h' hn hm
  by_cases he : n = m
  · subst he
    go_enter Try.func96, Try.ntmps96
    go_wp2_with fail
    go_loopw [13] (fun ii wr => ∃ (k : Nat), ii = .int .i64 (k : Int) ∧ k ≤ n ∧ Below w.heap.size w wr ∧ Hid (∀ j, j < k → xs[j]? = ys[j]?)) (fun ii _ => n - (intOf ii).toNat)
    case atStart => exact ⟨0, rfl, Nat.zero_le _, Below.refl _ _, fun j hj => absurd hj (by omega)⟩
    case round =>
      obtain ⟨k, rfl, hk, hB, hE⟩ := hrel
      by_cases hlt : k < n
      · obtain ⟨x, hx⟩ := get_lt (l := xs) (i := k) (by rw [hN.out]; exact hlt)
        obtain ⟨y, hy⟩ := get_lt (l := ys) (i := k) (by rw [hM.out]; exact hlt)
        have hK := Kept.of_below hB (fun _ => False)
        obtain ⟨g, cap, hg, hc⟩ := own_get (hK.ownsRow hH.out (fun _ _ => id)) (map_get (f := Value.bool) hx)
        obtain ⟨g', cap', hg', hc'⟩ := own_get (hK.ownsRow hH'.out (fun _ _ => id)) (map_get (f := Value.bool) hy)
        injection hg with hg _ hcc
        injection hg' with hg' _ hcc'
        subst hg hcc hg' hcc'
        skip
        have hX := hide hx
        have hY := hide hy
        have hst := hide (hB.trans ((drew_below wr).mono hB.size))
        clear hx hy
        by_cases hxy : x = y
        · have hq : (x == y) = true := by simp [hxy]
          have hXY := hide hxy
          clear hxy
          go_wp2_with fail
          refine Reg.region_plain [0, 0, 3, 7, 0, 0, 48, 112, 255] (by kernel_rfl) (by repeat (first | exact Reg.NoQ.body (fun _ _ h => h) (fun _ h => h) | refine Reg.NoQ.then ?_ | refine Reg.NoQ.inBlock ?_)) ?_
          go_wp2_with fail
          refine ⟨⟨k + 1, by go_num, by omega, hst.out, fun j hj => ?_⟩, by simp [intOf]; omega⟩
          by_cases e : j = k
          · subst e; rw [hX.out, hY.out, hXY.out]
          · exact hE.out j (by omega)
        · have hq : (x == y) = false := by simpa using hxy
          have hXY := hide hxy
          clear hxy
          go_wp2_with fail
          refine Reg.region_plain [0, 0, 3, 7, 0, 0, 48, 112, 255] (by kernel_rfl) (by repeat (first | exact Reg.NoQ.body (fun _ _ h => h) (fun _ h => h) | refine Reg.NoQ.then ?_ | refine Reg.NoQ.inBlock ?_)) ?_
          go_wp2_with fail
          go_ret
          refine ⟨congrArg Value.bool (decide_eq_false fun e => ?_).symm, hst.out⟩
          have h1 := hX.out
          rw [e, hY.out] at h1
          exact hXY.out (Option.some.inj h1).symm
      · go_wp2_with fail
        go_ret
        refine ⟨congrArg Value.bool (decide_eq_true (List.ext_getElem? fun j => ?_)).symm, hB⟩
        by_cases hj : j < n
        · exact hE.out j (by omega)
        · rw [List.getElem?_eq_none (by rw [hN.out]; omega), List.getElem?_eq_none (by rw [hM.out]; omega)]
  · have hz : ((n : Int) == (m : Int)) = false := by simp; omega
    have hne : ¬ xs = ys := fun e => he (by rw [← hN.out, ← hM.out, e])
    have hNE := hide hne
    clear hne
    go_enter Try.func96, Try.ntmps96
    go_wp2_with fail
    go_ret
    exact ⟨congrArg Value.bool (decide_eq_false hNE.out).symm, Below.refl _ _⟩

set_option maxHeartbeats 4000000 in
set_option maxRecDepth 100000 in
theorem eqN_any {w : World} {base base' n m c c' : Nat} {A A' : Option Addr} {xs ys : List Nat} (h : w.ownsRow base 3 1 (.slice A n c) n (xs.map encN)) (h' : w.ownsRow base' 3 1 (.slice A' m c') m (ys.map encN)) (hn : xs.length = n) (hm : ys.length = m) (hn0 : n ≤ 100000) (hm0 : m ≤ 100000) :
    Calls Try.prog 97 #[.slice A n c, .slice A' m c'] w (Ret fun r w' => r = .bool (decide (xs = ys)) ∧ Below w.heap.size w w') := by
  have hH := hide h
  have hH' := hide h'
  have hN := hide hn
  have hM := hide hm
  clear h h' hn hm
  by_cases he : n = m
  · subst he
    go_enter Try.func97, Try.ntmps97
    go_wp2_with fail
    go_loopw [13] (fun ii wr => ∃ (k : Nat), ii = .int .i64 (k : Int) ∧ k ≤ n ∧ Below w.heap.size w wr ∧ Hid (∀ j, j < k → xs[j]? = ys[j]?)) (fun ii _ => n - (intOf ii).toNat)
    case atStart => exact ⟨0, rfl, Nat.zero_le _, Below.refl _ _, fun j hj => absurd hj (by omega)⟩
    case round =>
      obtain ⟨k, rfl, hk, hB, hE⟩ := hrel
      by_cases hlt : k < n
      · obtain ⟨x, hx⟩ := get_lt (l := xs) (i := k) (by rw [hN.out]; exact hlt)
        obtain ⟨y, hy⟩ := get_lt (l := ys) (i := k) (by rw [hM.out]; exact hlt)
        have hK := Kept.of_below hB (fun _ => False)
        obtain ⟨g, cap, hg, hc⟩ := own_get (hK.ownsRow hH.out (fun _ _ => id)) (map_get (f := encN) hx)
        obtain ⟨g', cap', hg', hc'⟩ := own_get (hK.ownsRow hH'.out (fun _ _ => id)) (map_get (f := encN) hy)
        injection hg with hg _ hcc
        injection hg' with hg' _ hcc'
        subst hg hcc hg' hcc'
        simp only [encN] at hc hc'
        have hX := hide hx
        have hY := hide hy
        have hst := hide (hB.trans ((drew_below wr).mono hB.size))
        clear hx hy
        by_cases hxy : x = y
        · have hq : ((x : Int) == (y : Int)) = true := by simp [hxy]
          have hXY := hide hxy
          clear hxy
          go_wp2_with fail
          refine Reg.region_plain [0, 0, 3, 7, 0, 0, 48, 112, 255] (by kernel_rfl) (by repeat (first | exact Reg.NoQ.body (fun _ _ h => h) (fun _ h => h) | refine Reg.NoQ.then ?_ | refine Reg.NoQ.inBlock ?_)) ?_
          go_wp2_with fail
          refine ⟨⟨k + 1, by go_num, by omega, hst.out, fun j hj => ?_⟩, by simp [intOf]; omega⟩
          by_cases e : j = k
          · subst e; rw [hX.out, hY.out, hXY.out]
          · exact hE.out j (by omega)
        · have hq : ((x : Int) == (y : Int)) = false := by simp; omega
          have hXY := hide hxy
          clear hxy
          go_wp2_with fail
          refine Reg.region_plain [0, 0, 3, 7, 0, 0, 48, 112, 255] (by kernel_rfl) (by repeat (first | exact Reg.NoQ.body (fun _ _ h => h) (fun _ h => h) | refine Reg.NoQ.then ?_ | refine Reg.NoQ.inBlock ?_)) ?_
          go_wp2_with fail
          go_ret
          refine ⟨congrArg Value.bool (decide_eq_false fun e => ?_).symm, hst.out⟩
          have h1 := hX.out
          rw [e, hY.out] at h1
          exact hXY.out (Option.some.inj h1).symm
      · go_wp2_with fail
        go_ret
        refine ⟨congrArg Value.bool (decide_eq_true (List.ext_getElem? fun j => ?_)).symm, hB⟩
        by_cases hj : j < n
        · exact hE.out j (by omega)
        · rw [List.getElem?_eq_none (by rw [hN.out]; omega), List.getElem?_eq_none (by rw [hM.out]; omega)]
  · have hz : ((n : Int) == (m : Int)) = false := by simp; omega
    have hne : ¬ xs = ys := fun e => he (by rw [← hN.out, ← hM.out, e])
    have hNE := hide hne
    clear hne
    go_enter Try.func97, Try.ntmps97
    go_wp2_with fail
    go_ret
    exact ⟨congrArg Value.bool (decide_eq_false hNE.out).symm, Below.refl _ _⟩
end Go.Proofs.Ytnimlcbgeiajiaa

namespace Go.Proofs.Ytnimlcbgeiajiaa
open Go.RowKit

def rowAt (t : List (List (List Nat))) (i j : Nat) : List Nat := (t.getD i []).getD j []
theorem MachA.rowAt {w : World} {base gM L : Nat} {vacc vleaf vbr : Value} {ac : List Bool} {lf : List Nat} {t : List (List (List Nat))} (hM : MachA w base gM L vacc vleaf vbr ac lf t) (hok : MOK L ac lf t) {i j : Nat} (hi : i < ac.length) (hj : j < ac.length) :
    ∃ gv cv gi ci A c, vbr = .slice (some ⟨gv, 0, none⟩) ac.length cv ∧ w.cell? ⟨gv, i, none⟩ = some (.slice (some ⟨gi, 0, none⟩) ac.length ci) ∧ w.cell? ⟨gi, j, none⟩ = some (.slice A L c) ∧ w.ownsRow base 3 1 (.slice A L c) L ((rowAt t i j).map encN) ∧ (Proofs.Ytnimlcbgeiajiaa.rowAt t i j).length = L := by
  obtain ⟨r, hr⟩ := get_lt (l := t) (i := i) (by rw [hok.tl]; exact hi)
  obtain ⟨hrl, hrr⟩ := hok.rl i r hr
  obtain ⟨row, hrow⟩ := get_lt (l := r) (i := j) (by rw [hrl]; exact hj)
  have hrowl := hrr j row hrow
  obtain ⟨us, hu⟩ := hM.tab.open
  have hul := hu.len
  obtain ⟨ui, hui⟩ := get_lt (l := us) (i := i) (by rw [hul]; exact lt_of_get hr)
  obtain ⟨gv, cv, rfl, hc1⟩ := own_get hu.own hui
  obtain ⟨uis, h1, h2, h3⟩ := hu.row i ui r hui hr
  obtain ⟨uj, huj⟩ := get_lt (l := uis) (i := j) (by rw [h1]; exact lt_of_get hrow)
  obtain ⟨gi, ci, rfl, hc2⟩ := own_get h2 huj
  have hI := h3 j uj row huj hrow
  have hI' : w.ownsRow base 3 1 uj row.length (row.map encN) := hI
  obtain ⟨A, c, rfl⟩ := slice_of_own hI'
  have e : Proofs.Ytnimlcbgeiajiaa.rowAt t i j = row := by unfold Proofs.Ytnimlcbgeiajiaa.rowAt; rw [getD_some hr, getD_some hrow]
  rw [e]
  rw [hrowl] at hI' hc2
  exact ⟨gv, cv, gi, ci, A, c, by rw [hok.tl], by rw [← hrl]; exact hc1, hc2, hI', hrowl⟩
theorem tab_ext {L : Nat} {ac : List Bool} {lf lf' : List Nat} {t t' : List (List (List Nat))} (h : MOK L ac lf t) (h' : MOK L ac lf' t') (he : ∀ i, i < ac.length → ∀ j, j < ac.length → rowAt t i j = rowAt t' i j) : t = t' := by
  refine List.ext_getElem? fun i => ?_
  by_cases hi : i < ac.length
  · obtain ⟨r, hr⟩ := get_lt (l := t) (i := i) (by rw [h.tl]; exact hi)
    obtain ⟨r', hr'⟩ := get_lt (l := t') (i := i) (by rw [h'.tl]; exact hi)
    rw [hr, hr']
    congr 1
    have l1 := (h.rl i r hr).1
    have l2 := (h'.rl i r' hr').1
    refine List.ext_getElem? fun j => ?_
    by_cases hj : j < ac.length
    · obtain ⟨x, hx⟩ := get_lt (l := r) (i := j) (by omega)
      obtain ⟨y, hy⟩ := get_lt (l := r') (i := j) (by omega)
      have := he i hi j hj
      unfold rowAt at this
      rw [getD_some hr, getD_some hr', getD_some hx, getD_some hy] at this
      rw [hx, hy, this]
    · rw [List.getElem?_eq_none (by omega), List.getElem?_eq_none (by omega)]
  · rw [List.getElem?_eq_none (by rw [h.tl]; omega), List.getElem?_eq_none (by rw [h'.tl]; omega)]

set_option maxHeartbeats 16000000 in
set_option maxRecDepth 100000 in
theorem equal_any {w : World} {base base' gM gN L : Nat} {va vl vb va' vl' vb' : Value} {ac ac' : List Bool} {lf lf' : List Nat} {t t' : List (List (List Nat))} (hM : MachA w base gM L va vl vb ac lf t) (hN : MachA w base' gN L va' vl' vb' ac' lf' t')
    (hok : MOK L ac lf t) (hok' : MOK L ac' lf' t') (hL : L ≤ 8) (hn : ac.length ≤ 64) (hn' : ac'.length ≤ 64) :
    Calls Try.prog 72 #[.pointer (some ⟨gM, 0, none⟩), .pointer (some ⟨gN, 0, none⟩)] w (Ret fun r w' => r = .bool (decide (ac = ac' ∧ lf = lf' ∧ t = t')) ∧ Below w.heap.size w w') := by
  obtain ⟨A, c, rfl⟩ := slice_of_own hM.acc
  obtain ⟨A', c', rfl⟩ := slice_of_own hN.acc
  have hMl := hM.lfs
  have hNl := hN.lfs
  unfold IntRow at hMl hNl
  obtain ⟨A1, c1, rfl⟩ := slice_of_own hMl
  obtain ⟨A1', c1', rfl⟩ := slice_of_own hNl
  have hcm := hM.blk.cell
  have hcn := hN.blk.cell
  have hMM := hide hM
  have hNN := hide hN
  have hOK := hide hok
  have hOK' := hide hok'
  have hML := hide hMl
  have hNL := hide hNl
  have e1 := hok.lfl
  have e2 := hok'.lfl
  have hE1 := hide e1
  have hE2 := hide e2
  have heq : ((L : Int) == (L : Int)) = true := by simp
  have hdb := hide (drew_below w)
  have hMd := hide (hM.acc)
  clear hM hN hok hok' hMl hNl e1 e2 hMd
  by_cases h1 : ac = ac'
  · subst h1
    by_cases h2 : lf = lf'
    · subst h2
      go_enter Try.func72, Try.ntmps72
      go_wp2_with fail
      refine Reg.region_plain [0, 1, 3, 7, 0, 16, 48, 112, 255, 511, 1023, 2047, 4095, 8191, 1023, 17407, 50175, 115711, 262143, 524287, 1048575, 2097151, 4194303, 8388607, 16777215, 33554431, 4194303, 71303167, 205520895, 473956351, 1073741823, 2147483647, 4294967295] (by kernel_rfl) (by repeat (first | exact Reg.NoQ.body (fun _ _ h => h) (fun _ h => h) | refine Reg.NoQ.then ?_ | refine Reg.NoQ.inBlock ?_)) ?_
      go_wp2_with fail
      refine Calls.ret (eqB_any (xs := ac) (ys := ac) (w := w.drew) hMM.out.acc hNN.out.acc rfl rfl (by omega) (by omega)) ?_
      rintro v w2 ⟨rfl, hb2⟩
      rw [decide_eq_true (rfl : ac = ac)]
      have hz2 := hide hb2.size
      have hk2 := Kept.of_below hb2 (fun _ => False)
      have hkd : Kept w w2 (fun _ => False) := ⟨hk2.os, hk2.tape, hk2.output, hk2.size, hk2.block⟩
      have hM2 := hide (hMM.out.keep hkd fun _ _ _ h => h.elim)
      have hN2 := hide (hNN.out.keep hkd fun _ _ _ h => h.elim)
      have hcm2 := hM2.out.blk.cell
      have hcn2 := hN2.out.blk.cell
      have hL2 : w2.ownsRow base 3 1 (.slice A1 lf.length c1) lf.length (lf.map encN) := hM2.out.lfs
      have hL2' : w2.ownsRow base' 3 1 (.slice A1' lf.length c1') lf.length (lf.map encN) := hN2.out.lfs
      have hHL2 := hide hL2
      have hHL2' := hide hL2'
      have hbd := hide (hdb.out.trans hb2)
      clear hk2 hkd hb2 hL2 hL2' hcm hcn
      go_wp2_with fail
      refine Calls.ret (eqN_any (xs := lf) (ys := lf) hHL2.out hHL2'.out rfl rfl (by rw [hE1.out]; omega) (by rw [hE1.out]; omega)) ?_
      rintro v w3 ⟨rfl, hb3⟩
      rw [decide_eq_true (rfl : lf = lf)]
      have hk3 := Kept.of_below hb3 (fun _ => False)
      have hM3 := hide (hM2.out.keep hk3 fun _ _ _ h => h.elim)
      have hN3 := hide (hN2.out.keep hk3 fun _ _ _ h => h.elim)
      have hcm3 := hM3.out.blk.cell
      have hcn3 := hN3.out.blk.cell
      have hb03 := hide (hbd.out.trans (hb3.mono hbd.out.size))
      have htl := hide hOK.out.tl
      obtain ⟨us, hu⟩ := hM3.out.tab.open
      obtain ⟨AV, CV, hvb⟩ := slice_of_own hu.own
      rw [hOK.out.tl] at hvb
      subst hvb
      clear hk3 hb3 hcm2 hcn2 hu
      go_wp2_with fail
      have hz3 := hide hb03.out.size
      go_loopw [45] (fun ii wr => ∃ (i : Nat), ii = .int .i64 (i : Int) ∧ i ≤ ac.length ∧ Below w3.heap.size w3 wr ∧ Hid (∀ i', i' < i → ∀ j, j < ac.length → rowAt t i' j = rowAt t' i' j)) (fun ii _ => ac.length - (intOf ii).toNat)
      case atStart => exact ⟨0, rfl, Nat.zero_le _, Below.refl _ _, fun j hj => absurd hj (by omega)⟩
      case round =>
        obtain ⟨i, rfl, hi, hB, hE⟩ := hrel
        have hMr := hide (hM3.out.keep (Kept.of_below hB (fun _ => False)) fun _ _ _ h => h.elim)
        have hcmr := hMr.out.blk.cell
        have hHB := hide hB
        clear hcm3 hcn3 hB
        by_cases hlt : i < ac.length
        · obtain ⟨gv, cv, gi, ci, _, _, hv, hci, -⟩ := hMr.out.rowAt hOK.out hlt (j := 0) (by omega)
          injection hv with hv _ hv2
          subst hv hv2
          go_wp2_with fail
          obtain ⟨wa, hwa⟩ : ∃ wa : World, wa = wr := ⟨_, rfl⟩
          go_loopw [56] (fun jj wr2 => ∃ (j : Nat), jj = .int .i64 (j : Int) ∧ j ≤ ac.length ∧ Below w3.heap.size w3 wr2 ∧ Hid (∀ j', j' < j → rowAt t i j' = rowAt t' i j')) (fun jj _ => ac.length - (intOf jj).toNat)
          case atStart => exact ⟨0, rfl, Nat.zero_le _, hHB.out, fun j hj => absurd hj (by omega)⟩
          case round =>
            obtain ⟨jx, rfl, hjx, hB2, hE2⟩ := hrel
            clear hcmr hci
            by_cases hlt2 : jx < ac.length
            · have hM4 := hM3.out.keep (Kept.of_below hB2 (fun _ => False)) fun _ _ _ h => h.elim
              have hN4 := hN3.out.keep (Kept.of_below hB2 (fun _ => False)) fun _ _ _ h => h.elim
              obtain ⟨gv5, cv5, gi5, ci5, B5, d5, hv5, p1, p2, p3, p4⟩ := hM4.rowAt hOK.out hlt hlt2
              obtain ⟨gv6, cv6, gi6, ci6, B6, d6, hv6, q1, q2, q3, q4⟩ := hN4.rowAt hOK'.out hlt hlt2
              injection hv5 with hv5 _ hv52
              injection hv5 with hv5
              injection hv5 with hv5
              subst hv5 hv52
              subst hv6
              have hcm5 := hM4.blk.cell
              have hcn5 := hN4.blk.cell
              have hP3 := hide p3
              have hQ3 := hide q3
              have hP4 := hide p4
              have hQ4 := hide q4
              have hst := hide (hB2.trans ((drew_below _).mono hB2.size))
              clear p3 q3 p4 q4 hM4 hN4
              obtain ⟨bb, hbb⟩ : ∃ bb, decide (rowAt t i jx = rowAt t' i jx) = bb := ⟨_, rfl⟩
              have hBB := hide hbb
              clear hbb
              go_wp2_with fail
              refine Reg.region_plain [0, 1, 3, 7, 0, 31, 63, 0, 255, 511, 0, 1024, 3072, 7168, 0, 31744, 64512, 0, 261120, 523264, 1048575, 2097151] (by kernel_rfl) (by repeat (first | exact Reg.NoQ.body (fun _ _ h => h) (fun _ h => h) | refine Reg.NoQ.then ?_ | refine Reg.NoQ.inBlock ?_)) ?_
              go_wp2_with fail
              refine Calls.ret (eqN_any (xs := rowAt t i jx) (ys := rowAt t' i jx) (w := _) hP3.out hQ3.out hP4.out hQ4.out (by omega) (by omega)) ?_
              rintro v w7 ⟨rfl, hb7⟩
              rw [hBB.out]
              have hb37 := hide (hst.out.trans (hb7.mono hst.out.size))
              clear hb7
              cases bb
              · go_wp2_with fail
                go_ret
                refine ⟨congrArg Value.bool (decide_eq_false fun e => ?_).symm, hb03.out.trans (hb37.out.mono hz3.out)⟩
                have h9 := of_decide_eq_false hBB.out
                exact h9 (by rw [e.2.2])
              · go_wp2_with fail
                refine ⟨⟨jx + 1, by go_num, by omega, hb37.out, fun j' hj' => ?_⟩, by simp [intOf]; omega⟩
                by_cases e : j' = jx
                · subst e; exact of_decide_eq_true hBB.out
                · exact hE2.out j' (by omega)
            · have hHB2 := hide hB2
              clear hB2
              go_wp2_with fail
              refine ⟨⟨i + 1, by go_num, by omega, hHB2.out, fun i' hi' j hj => ?_⟩, by simp [intOf]; omega⟩
              by_cases e : i' = i
              · subst e; exact hE2.out j (by omega)
              · exact hE.out i' (by omega) j hj
        · go_wp2_with fail
          go_ret
          have hT := tab_ext hOK.out hOK'.out fun i' hi' j hj => hE.out i' (by omega) j hj
          refine ⟨congrArg Value.bool (Eq.symm (decide_eq_true ?_)), hb03.out.trans (hHB.out.mono hz3.out)⟩
          simp only [hT, and_self]
    · have hne : ¬ (ac = ac ∧ lf = lf' ∧ t = t') := fun e => h2 e.2.1
      have hNE := hide hne
      have hH2 := hide h2
      clear hne h2
      go_enter Try.func72, Try.ntmps72
      go_wp2_with fail
      refine Reg.region_plain [0, 1, 3, 7, 0, 16, 48, 112, 255, 511, 1023, 2047, 4095, 8191, 1023, 17407, 50175, 115711, 262143, 524287, 1048575, 2097151, 4194303, 8388607, 16777215, 33554431, 4194303, 71303167, 205520895, 473956351, 1073741823, 2147483647, 4294967295] (by kernel_rfl) (by repeat (first | exact Reg.NoQ.body (fun _ _ h => h) (fun _ h => h) | refine Reg.NoQ.then ?_ | refine Reg.NoQ.inBlock ?_)) ?_
      go_wp2_with fail
      refine Calls.ret (eqB_any (xs := ac) (ys := ac) (w := w.drew) hMM.out.acc hNN.out.acc rfl rfl (by omega) (by omega)) ?_
      rintro v w2 ⟨rfl, hb2⟩
      rw [decide_eq_true (rfl : ac = ac)]
      have hk2 := Kept.of_below hb2 (fun _ => False)
      have hkd : Kept w w2 (fun _ => False) := ⟨hk2.os, hk2.tape, hk2.output, hk2.size, hk2.block⟩
      have hM2 := hide (hMM.out.keep hkd fun _ _ _ h => h.elim)
      have hN2 := hide (hNN.out.keep hkd fun _ _ _ h => h.elim)
      have hcm2 := hM2.out.blk.cell
      have hcn2 := hN2.out.blk.cell
      have hL2 : w2.ownsRow base 3 1 (.slice A1 lf.length c1) lf.length (lf.map encN) := hM2.out.lfs
      have hL2' : w2.ownsRow base' 3 1 (.slice A1' lf'.length c1') lf'.length (lf'.map encN) := hN2.out.lfs
      have hHL2 := hide hL2
      have hHL2' := hide hL2'
      have hbd := hide (hdb.out.trans hb2)
      clear hk2 hkd hb2 hL2 hL2' hcm hcn
      go_wp2_with fail
      refine Calls.ret (eqN_any (xs := lf) (ys := lf') hHL2.out hHL2'.out rfl rfl (by rw [hE1.out]; omega) (by rw [hE2.out]; omega)) ?_
      rintro v w3 ⟨rfl, hb3⟩
      rw [decide_eq_false hH2.out]
      have hfin := hide (hbd.out.trans (hb3.mono hbd.out.size))
      clear hb3
      go_wp2_with fail
      go_ret
      exact ⟨congrArg Value.bool (decide_eq_false hNE.out).symm, hfin.out⟩
  · have hne : ¬ (ac = ac' ∧ lf = lf' ∧ t = t') := fun e => h1 e.1
    have hNE := hide hne
    have hH1 := hide h1
    clear hne h1
    go_enter Try.func72, Try.ntmps72
    go_wp2_with fail
    refine Reg.region_plain [0, 1, 3, 7, 0, 16, 48, 112, 255, 511, 1023, 2047, 4095, 8191, 1023, 17407, 50175, 115711, 262143, 524287, 1048575, 2097151, 4194303, 8388607, 16777215, 33554431, 4194303, 71303167, 205520895, 473956351, 1073741823, 2147483647, 4294967295] (by kernel_rfl) (by repeat (first | exact Reg.NoQ.body (fun _ _ h => h) (fun _ h => h) | refine Reg.NoQ.then ?_ | refine Reg.NoQ.inBlock ?_)) ?_
    go_wp2_with fail
    refine Calls.ret (eqB_any (xs := ac) (ys := ac') (w := w.drew) hMM.out.acc hNN.out.acc rfl rfl (by omega) (by omega)) ?_
    rintro v w2 ⟨rfl, hb2⟩
    rw [decide_eq_false hH1.out]
    have hfin := hide (hdb.out.trans hb2)
    clear hb2
    go_wp2_with fail
    go_ret
    exact ⟨congrArg Value.bool (decide_eq_false hNE.out).symm, hfin.out⟩
end Go.Proofs.Ytnimlcbgeiajiaa
