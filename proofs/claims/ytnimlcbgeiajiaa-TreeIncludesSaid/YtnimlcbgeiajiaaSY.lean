/-
  slices.Equal of marks and of numbers: the walks.
  machine.equal: the walk.
  tree.Included and tree.Same: the walks.
  What Included and Same answer, by relation: plain Lean.
  The reference's Included and Same: the walks.
  The law TreeIncludes: the walk.
-/
import Derived.Test.YtnimlcbgeiajiaaSV
import Derived.Test.YtnimlcbgeiajiaaQE
import Derived.Test.YtnimlcbgeiajiaaSK
import Derived.Test.YtnimlcbgeiajiaaSX

namespace Go.Proofs.Ytnimlcbgeiajiaa
open Go.RowKit

set_option maxHeartbeats 4000000 in
set_option maxRecDepth 100000 in
theorem eqB_any {w : World} {base base' n m c c' : Nat} {A A' : Option Addr} {xs ys : List Bool} (h : w.ownsRow base 4 1 (.slice A n c) n (xs.map Value.bool)) (h' : w.ownsRow base' 4 1 (.slice A' m c') m (ys.map Value.bool)) (hn : xs.length = n) (hm : ys.length = m) (hn0 : n ≤ 100000) (hm0 : m ≤ 100000) :
    Calls Try.prog 96 #[.slice A n c, .slice A' m c'] w (Ret fun r w' => r = .bool (decide (xs = ys)) ∧ Below w.heap.size w w') := by
  have hH := hide h
  have hH' := hide h'
  have hN := hide hn
  have hM := hide hm
  clear h h' hn hm
  by_cases he : n = m
  · subst he
    go_enter Try.func96, Try.ntmps96
    go_wp2_with fail
    go_loopw [13] (fun ii wr => ∃ (k : Nat), ii = .int .i64 (k : Int) ∧ k ≤ n ∧ Below w.heap.size w wr ∧ Hid (∀ j, j < k → xs[j]? = ys[j]?)) (fun ii _ => n - (intOf ii).toNat)
    case atStart => exact ⟨0, rfl, Nat.zero_le _, Below.refl _ _, fun j hj => absurd hj (by omega)⟩
    case round =>
      obtain ⟨k, rfl, hk, hB, hE⟩ := hrel
      by_cases hlt : k < n
      · obtain ⟨x, hx⟩ := get_lt (l := xs) (i := k) (by rw [hN.out]; exact hlt)
        obtain ⟨y, hy⟩ := get_lt (l := ys) (i := k) (by rw [hM.out]; exact hlt)
        have hK := Kept.of_below hB (fun _ => False)
        obtain ⟨g, cap, hg, hc⟩ := own_get (hK.ownsRow hH.out (fun _ _ => id)) (map_get (f := Value.bool) hx)
        obtain ⟨g', cap', hg', hc'⟩ := own_get (hK.ownsRow hH'.out (fun _ _ => id)) (map_get (f := Value.bool) hy)
        injection hg with hg _ hcc
        injection hg' with hg' _ hcc'
        subst hg hcc hg' hcc'
        skip
        have hX := hide hx
        have hY := hide hy
        have hst := hide (hB.trans ((drew_below wr).mono hB.size))
        clear hx hy
        by_cases hxy : x = y
        · have hq : (x == y) = true := by simp [hxy]
          have hXY := hide hxy
          clear hxy
          go_wp2_with fail
          refine Reg.region_plain [0, 0, 3, 7, 0, 0, 48, 112, 255] (by kernel_rfl) (by repeat (first | exact Reg.NoQ.body (fun _ _ h => h) (fun _ h => h) | refine Reg.NoQ.then ?_ | refine Reg.NoQ.inBlock ?_)) ?_
          go_wp2_with fail
          refine ⟨⟨k + 1, by go_num, by omega, hst.out, fun j hj => ?_⟩, by simp [intOf]; omega⟩
          by_cases e : j = k
          · subst e; rw [hX.out, hY.out, hXY.out]
          · exact hE.out j (by omega)
        · have hq : (x == y) = false := by simpa using hxy
          have hXY := hide hxy
          clear hxy
          go_wp2_with fail
          refine Reg.region_plain [0, 0, 3, 7, 0, 0, 48, 112, 255] (by kernel_rfl) (by repeat (first | exact Reg.NoQ.body (fun _ _ h => h) (fun _ h => h) | refine Reg.NoQ.then ?_ | refine Reg.NoQ.inBlock ?_)) ?_
          go_wp2_with fail
          go_ret
          refine ⟨congrArg Value.bool (decide_eq_false fun e => ?_).symm, hst.out⟩
          have h1 := hX.out
          rw [e, hY.out] at h1
          exact hXY.out (Option.some.inj h1).symm
      · go_wp2_with fail
        go_ret
        refine ⟨congrArg Value.bool (decide_eq_true (List.ext_getElem? fun j => ?_)).symm, hB⟩
        by_cases hj : j < n
        · exact hE.out j (by omega)
        · rw [List.getElem?_eq_none (by rw [hN.out]; omega), List.getElem?_eq_none (by rw [hM.out]; omega)]
  · have hz : ((n : Int) == (m : Int)) = false := by simp; omega
    have hne : ¬ xs = ys := fun e => he (by rw [← hN.out, ← hM.out, e])
    have hNE := hide hne
    clear hne
    go_enter Try.func96, Try.ntmps96
    go_wp2_with fail
    go_ret
    exact ⟨congrArg Value.bool (decide_eq_false hNE.out).symm, Below.refl _ _⟩

set_option maxHeartbeats 4000000 in
set_option maxRecDepth 100000 in
theorem eqN_any {w : World} {base base' n m c c' : Nat} {A A' : Option Addr} {xs ys : List Nat} (h : w.ownsRow base 3 1 (.slice A n c) n (xs.map encN)) (h' : w.ownsRow base' 3 1 (.slice A' m c') m (ys.map encN)) (hn : xs.length = n) (hm : ys.length = m) (hn0 : n ≤ 100000) (hm0 : m ≤ 100000) :
    Calls Try.prog 97 #[.slice A n c, .slice A' m c'] w (Ret fun r w' => r = .bool (decide (xs = ys)) ∧ Below w.heap.size w w') := by
  have hH := hide h
  have hH' := hide h'
  have hN := hide hn
  have hM := hide hm
  clear h h' hn hm
  by_cases he : n = m
  · subst he
    go_enter Try.func97, Try.ntmps97
    go_wp2_with fail
    go_loopw [13] (fun ii wr => ∃ (k : Nat), ii = .int .i64 (k : Int) ∧ k ≤ n ∧ Below w.heap.size w wr ∧ Hid (∀ j, j < k → xs[j]? = ys[j]?)) (fun ii _ => n - (intOf ii).toNat)
    case atStart => exact ⟨0, rfl, Nat.zero_le _, Below.refl _ _, fun j hj => absurd hj (by omega)⟩
    case round =>
      obtain ⟨k, rfl, hk, hB, hE⟩ := hrel
      by_cases hlt : k < n
      · obtain ⟨x, hx⟩ := get_lt (l := xs) (i := k) (by rw [hN.out]; exact hlt)
        obtain ⟨y, hy⟩ := get_lt (l := ys) (i := k) (by rw [hM.out]; exact hlt)
        have hK := Kept.of_below hB (fun _ => False)
        obtain ⟨g, cap, hg, hc⟩ := own_get (hK.ownsRow hH.out (fun _ _ => id)) (map_get (f := encN) hx)
        obtain ⟨g', cap', hg', hc'⟩ := own_get (hK.ownsRow hH'.out (fun _ _ => id)) (map_get (f := encN) hy)
        injection hg with hg _ hcc
        injection hg' with hg' _ hcc'
        subst hg hcc hg' hcc'
        simp only [encN] at hc hc'
        have hX := hide hx
        have hY := hide hy
        have hst := hide (hB.trans ((drew_below wr).mono hB.size))
        clear hx hy
        by_cases hxy : x = y
        · have hq : ((x : Int) == (y : Int)) = true := by simp [hxy]
          have hXY := hide hxy
          clear hxy
          go_wp2_with fail
          refine Reg.region_plain [0, 0, 3, 7, 0, 0, 48, 112, 255] (by kernel_rfl) (by repeat (first | exact Reg.NoQ.body (fun _ _ h => h) (fun _ h => h) | refine Reg.NoQ.then ?_ | refine Reg.NoQ.inBlock ?_)) ?_
          go_wp2_with fail
          refine ⟨⟨k + 1, by go_num, by omega, hst.out, fun j hj => ?_⟩, by simp [intOf]; omega⟩
          by_cases e : j = k
          · subst e; rw [hX.out, hY.out, hXY.out]
          · exact hE.out j (by omega)
        · have hq : ((x : Int) == (y : Int)) = false := by simp; omega
          have hXY := hide hxy
          clear hxy
          go_wp2_with fail
          refine Reg.region_plain [0, 0, 3, 7, 0, 0, 48, 112, 255] (by kernel_rfl) (by repeat (first | exact Reg.NoQ.body (fun _ _ h => h) (fun _ h => h) | refine Reg.NoQ.then ?_ | refine Reg.NoQ.inBlock ?_)) ?_
          go_wp2_with fail
          go_ret
          refine ⟨congrArg Value.bool (decide_eq_false fun e => ?_).symm, hst.out⟩
          have h1 := hX.out
          rw [e, hY.out] at h1
          exact hXY.out (Option.some.inj h1).symm
      · go_wp2_with fail
        go_ret
        refine ⟨congrArg Value.bool (decide_eq_true (List.ext_getElem? fun j => ?_)).symm, hB⟩
        by_cases hj : j < n
        · exact hE.out j (by omega)
        · rw [List.getElem?_eq_none (by rw [hN.out]; omega), List.getElem?_eq_none (by rw [hM.out]; omega)]
  · have hz : ((n : Int) == (m : Int)) = false := by simp; omega
    have hne : ¬ xs = ys := fun e => he (by rw [← hN.out, ← hM.out, e])
    have hNE := hide hne
    clear hne
    go_enter Try.func97, Try.ntmps97
    go_wp2_with fail
    go_ret
    exact ⟨congrArg Value.bool (decide_eq_false hNE.out).symm, Below.refl _ _⟩
end Go.Proofs.Ytnimlcbgeiajiaa

namespace Go.Proofs.Ytnimlcbgeiajiaa
open Go.RowKit

def rowAt (t : List (List (List Nat))) (i j : Nat) : List Nat := (t.getD i []).getD j []
theorem MachA.rowAt {w : World} {base gM L : Nat} {vacc vleaf vbr : Value} {ac : List Bool} {lf : List Nat} {t : List (List (List Nat))} (hM : MachA w base gM L vacc vleaf vbr ac lf t) (hok : MOK L ac lf t) {i j : Nat} (hi : i < ac.length) (hj : j < ac.length) :
    ∃ gv cv gi ci A c, vbr = .slice (some ⟨gv, 0, none⟩) ac.length cv ∧ w.cell? ⟨gv, i, none⟩ = some (.slice (some ⟨gi, 0, none⟩) ac.length ci) ∧ w.cell? ⟨gi, j, none⟩ = some (.slice A L c) ∧ w.ownsRow base 3 1 (.slice A L c) L ((rowAt t i j).map encN) ∧ (Proofs.Ytnimlcbgeiajiaa.rowAt t i j).length = L := by
  obtain ⟨r, hr⟩ := get_lt (l := t) (i := i) (by rw [hok.tl]; exact hi)
  obtain ⟨hrl, hrr⟩ := hok.rl i r hr
  obtain ⟨row, hrow⟩ := get_lt (l := r) (i := j) (by rw [hrl]; exact hj)
  have hrowl := hrr j row hrow
  obtain ⟨us, hu⟩ := hM.tab.open
  have hul := hu.len
  obtain ⟨ui, hui⟩ := get_lt (l := us) (i := i) (by rw [hul]; exact lt_of_get hr)
  obtain ⟨gv, cv, rfl, hc1⟩ := own_get hu.own hui
  obtain ⟨uis, h1, h2, h3⟩ := hu.row i ui r hui hr
  obtain ⟨uj, huj⟩ := get_lt (l := uis) (i := j) (by rw [h1]; exact lt_of_get hrow)
  obtain ⟨gi, ci, rfl, hc2⟩ := own_get h2 huj
  have hI := h3 j uj row huj hrow
  have hI' : w.ownsRow base 3 1 uj row.length (row.map encN) := hI
  obtain ⟨A, c, rfl⟩ := slice_of_own hI'
  have e : Proofs.Ytnimlcbgeiajiaa.rowAt t i j = row := by unfold Proofs.Ytnimlcbgeiajiaa.rowAt; rw [getD_some hr, getD_some hrow]
  rw [e]
  rw [hrowl] at hI' hc2
  exact ⟨gv, cv, gi, ci, A, c, by rw [hok.tl], by rw [← hrl]; exact hc1, hc2, hI', hrowl⟩
theorem tab_ext {L : Nat} {ac : List Bool} {lf lf' : List Nat} {t t' : List (List (List Nat))} (h : MOK L ac lf t) (h' : MOK L ac lf' t') (he : ∀ i, i < ac.length → ∀ j, j < ac.length → rowAt t i j = rowAt t' i j) : t = t' := by
  refine List.ext_getElem? fun i => ?_
  by_cases hi : i < ac.length
  · obtain ⟨r, hr⟩ := get_lt (l := t) (i := i) (by rw [h.tl]; exact hi)
    obtain ⟨r', hr'⟩ := get_lt (l := t') (i := i) (by rw [h'.tl]; exact hi)
    rw [hr, hr']
    congr 1
    have l1 := (h.rl i r hr).1
    have l2 := (h'.rl i r' hr').1
    refine List.ext_getElem? fun j => ?_
    by_cases hj : j < ac.length
    · obtain ⟨x, hx⟩ := get_lt (l := r) (i := j) (by omega)
      obtain ⟨y, hy⟩ := get_lt (l := r') (i := j) (by omega)
      have := he i hi j hj
      unfold rowAt at this
      rw [getD_some hr, getD_some hr', getD_some hx, getD_some hy] at this
      rw [hx, hy, this]
    · rw [List.getElem?_eq_none (by omega), List.getElem?_eq_none (by omega)]
  · rw [List.getElem?_eq_none (by rw [h.tl]; omega), List.getElem?_eq_none (by rw [h'.tl]; omega)]

set_option maxHeartbeats 16000000 in
set_option maxRecDepth 100000 in
theorem equal_any {w : World} {base base' gM gN L : Nat} {va vl vb va' vl' vb' : Value} {ac ac' : List Bool} {lf lf' : List Nat} {t t' : List (List (List Nat))} (hM : MachA w base gM L va vl vb ac lf t) (hN : MachA w base' gN L va' vl' vb' ac' lf' t')
    (hok : MOK L ac lf t) (hok' : MOK L ac' lf' t') (hL : L ≤ 8) (hn : ac.length ≤ 64) (hn' : ac'.length ≤ 64) :
    Calls Try.prog 72 #[.pointer (some ⟨gM, 0, none⟩), .pointer (some ⟨gN, 0, none⟩)] w (Ret fun r w' => r = .bool (decide (ac = ac' ∧ lf = lf' ∧ t = t')) ∧ Below w.heap.size w w') := by
  obtain ⟨A, c, rfl⟩ := slice_of_own hM.acc
  obtain ⟨A', c', rfl⟩ := slice_of_own hN.acc
  have hMl := hM.lfs
  have hNl := hN.lfs
  unfold IntRow at hMl hNl
  obtain ⟨A1, c1, rfl⟩ := slice_of_own hMl
  obtain ⟨A1', c1', rfl⟩ := slice_of_own hNl
  have hcm := hM.blk.cell
  have hcn := hN.blk.cell
  have hMM := hide hM
  have hNN := hide hN
  have hOK := hide hok
  have hOK' := hide hok'
  have hML := hide hMl
  have hNL := hide hNl
  have e1 := hok.lfl
  have e2 := hok'.lfl
  have hE1 := hide e1
  have hE2 := hide e2
  have heq : ((L : Int) == (L : Int)) = true := by simp
  have hdb := hide (drew_below w)
  have hMd := hide (hM.acc)
  clear hM hN hok hok' hMl hNl e1 e2 hMd
  by_cases h1 : ac = ac'
  · subst h1
    by_cases h2 : lf = lf'
    · subst h2
      go_enter Try.func72, Try.ntmps72
      go_wp2_with fail
      refine Reg.region_plain [0, 1, 3, 7, 0, 16, 48, 112, 255, 511, 1023, 2047, 4095, 8191, 1023, 17407, 50175, 115711, 262143, 524287, 1048575, 2097151, 4194303, 8388607, 16777215, 33554431, 4194303, 71303167, 205520895, 473956351, 1073741823, 2147483647, 4294967295] (by kernel_rfl) (by repeat (first | exact Reg.NoQ.body (fun _ _ h => h) (fun _ h => h) | refine Reg.NoQ.then ?_ | refine Reg.NoQ.inBlock ?_)) ?_
      go_wp2_with fail
      refine Calls.ret (eqB_any (xs := ac) (ys := ac) (w := w.drew) hMM.out.acc hNN.out.acc rfl rfl (by omega) (by omega)) ?_
      rintro v w2 ⟨rfl, hb2⟩
      rw [decide_eq_true (rfl : ac = ac)]
      have hz2 := hide hb2.size
      have hk2 := Kept.of_below hb2 (fun _ => False)
      have hkd : Kept w w2 (fun _ => False) := ⟨hk2.os, hk2.tape, hk2.output, hk2.size, hk2.block⟩
      have hM2 := hide (hMM.out.keep hkd fun _ _ _ h => h.elim)
      have hN2 := hide (hNN.out.keep hkd fun _ _ _ h => h.elim)
      have hcm2 := hM2.out.blk.cell
      have hcn2 := hN2.out.blk.cell
      have hL2 : w2.ownsRow base 3 1 (.slice A1 lf.length c1) lf.length (lf.map encN) := hM2.out.lfs
      have hL2' : w2.ownsRow base' 3 1 (.slice A1' lf.length c1') lf.length (lf.map encN) := hN2.out.lfs
      have hHL2 := hide hL2
      have hHL2' := hide hL2'
      have hbd := hide (hdb.out.trans hb2)
      clear hk2 hkd hb2 hL2 hL2' hcm hcn
      go_wp2_with fail
      refine Calls.ret (eqN_any (xs := lf) (ys := lf) hHL2.out hHL2'.out rfl rfl (by rw [hE1.out]; omega) (by rw [hE1.out]; omega)) ?_
      rintro v w3 ⟨rfl, hb3⟩
      rw [decide_eq_true (rfl : lf = lf)]
      have hk3 := Kept.of_below hb3 (fun _ => False)
      have hM3 := hide (hM2.out.keep hk3 fun _ _ _ h => h.elim)
      have hN3 := hide (hN2.out.keep hk3 fun _ _ _ h => h.elim)
      have hcm3 := hM3.out.blk.cell
      have hcn3 := hN3.out.blk.cell
      have hb03 := hide (hbd.out.trans (hb3.mono hbd.out.size))
      have htl := hide hOK.out.tl
      obtain ⟨us, hu⟩ := hM3.out.tab.open
      obtain ⟨AV, CV, hvb⟩ := slice_of_own hu.own
      rw [hOK.out.tl] at hvb
      subst hvb
      clear hk3 hb3 hcm2 hcn2 hu
      go_wp2_with fail
      have hz3 := hide hb03.out.size
      go_loopw [45] (fun ii wr => ∃ (i : Nat), ii = .int .i64 (i : Int) ∧ i ≤ ac.length ∧ Below w3.heap.size w3 wr ∧ Hid (∀ i', i' < i → ∀ j, j < ac.length → rowAt t i' j = rowAt t' i' j)) (fun ii _ => ac.length - (intOf ii).toNat)
      case atStart => exact ⟨0, rfl, Nat.zero_le _, Below.refl _ _, fun j hj => absurd hj (by omega)⟩
      case round =>
        obtain ⟨i, rfl, hi, hB, hE⟩ := hrel
        have hMr := hide (hM3.out.keep (Kept.of_below hB (fun _ => False)) fun _ _ _ h => h.elim)
        have hcmr := hMr.out.blk.cell
        have hHB := hide hB
        clear hcm3 hcn3 hB
        by_cases hlt : i < ac.length
        · obtain ⟨gv, cv, gi, ci, _, _, hv, hci, -⟩ := hMr.out.rowAt hOK.out hlt (j := 0) (by omega)
          injection hv with hv _ hv2
          subst hv hv2
          go_wp2_with fail
          obtain ⟨wa, hwa⟩ : ∃ wa : World, wa = wr := ⟨_, rfl⟩
          go_loopw [56] (fun jj wr2 => ∃ (j : Nat), jj = .int .i64 (j : Int) ∧ j ≤ ac.length ∧ Below w3.heap.size w3 wr2 ∧ Hid (∀ j', j' < j → rowAt t i j' = rowAt t' i j')) (fun jj _ => ac.length - (intOf jj).toNat)
          case atStart => exact ⟨0, rfl, Nat.zero_le _, hHB.out, fun j hj => absurd hj (by omega)⟩
          case round =>
            obtain ⟨jx, rfl, hjx, hB2, hE2⟩ := hrel
            clear hcmr hci
            by_cases hlt2 : jx < ac.length
            · have hM4 := hM3.out.keep (Kept.of_below hB2 (fun _ => False)) fun _ _ _ h => h.elim
              have hN4 := hN3.out.keep (Kept.of_below hB2 (fun _ => False)) fun _ _ _ h => h.elim
              obtain ⟨gv5, cv5, gi5, ci5, B5, d5, hv5, p1, p2, p3, p4⟩ := hM4.rowAt hOK.out hlt hlt2
              obtain ⟨gv6, cv6, gi6, ci6, B6, d6, hv6, q1, q2, q3, q4⟩ := hN4.rowAt hOK'.out hlt hlt2
              injection hv5 with hv5 _ hv52
              injection hv5 with hv5
              injection hv5 with hv5
              subst hv5 hv52
              subst hv6
              have hcm5 := hM4.blk.cell
              have hcn5 := hN4.blk.cell
              have hP3 := hide p3
              have hQ3 := hide q3
              have hP4 := hide p4
              have hQ4 := hide q4
              have hst := hide (hB2.trans ((drew_below _).mono hB2.size))
              clear p3 q3 p4 q4 hM4 hN4
              obtain ⟨bb, hbb⟩ : ∃ bb, decide (rowAt t i jx = rowAt t' i jx) = bb := ⟨_, rfl⟩
              have hBB := hide hbb
              clear hbb
              go_wp2_with fail
              refine Reg.region_plain [0, 1, 3, 7, 0, 31, 63, 0, 255, 511, 0, 1024, 3072, 7168, 0, 31744, 64512, 0, 261120, 523264, 1048575, 2097151] (by kernel_rfl) (by repeat (first | exact Reg.NoQ.body (fun _ _ h => h) (fun _ h => h) | refine Reg.NoQ.then ?_ | refine Reg.NoQ.inBlock ?_)) ?_
              go_wp2_with fail
              refine Calls.ret (eqN_any (xs := rowAt t i jx) (ys := rowAt t' i jx) (w := _) hP3.out hQ3.out hP4.out hQ4.out (by omega) (by omega)) ?_
              rintro v w7 ⟨rfl, hb7⟩
              rw [hBB.out]
              have hb37 := hide (hst.out.trans (hb7.mono hst.out.size))
              clear hb7
              cases bb
              · go_wp2_with fail
                go_ret
                refine ⟨congrArg Value.bool (decide_eq_false fun e => ?_).symm, hb03.out.trans (hb37.out.mono hz3.out)⟩
                have h9 := of_decide_eq_false hBB.out
                exact h9 (by rw [e.2.2])
              · go_wp2_with fail
                refine ⟨⟨jx + 1, by go_num, by omega, hb37.out, fun j' hj' => ?_⟩, by simp [intOf]; omega⟩
                by_cases e : j' = jx
                · subst e; exact of_decide_eq_true hBB.out
                · exact hE2.out j' (by omega)
            · have hHB2 := hide hB2
              clear hB2
              go_wp2_with fail
              refine ⟨⟨i + 1, by go_num, by omega, hHB2.out, fun i' hi' j hj => ?_⟩, by simp [intOf]; omega⟩
              by_cases e : i' = i
              · subst e; exact hE2.out j (by omega)
              · exact hE.out i' (by omega) j hj
        · go_wp2_with fail
          go_ret
          have hT := tab_ext hOK.out hOK'.out fun i' hi' j hj => hE.out i' (by omega) j hj
          refine ⟨congrArg Value.bool (Eq.symm (decide_eq_true ?_)), hb03.out.trans (hHB.out.mono hz3.out)⟩
          simp only [hT, and_self]
    · have hne : ¬ (ac = ac ∧ lf = lf' ∧ t = t') := fun e => h2 e.2.1
      have hNE := hide hne
      have hH2 := hide h2
      clear hne h2
      go_enter Try.func72, Try.ntmps72
      go_wp2_with fail
      refine Reg.region_plain [0, 1, 3, 7, 0, 16, 48, 112, 255, 511, 1023, 2047, 4095, 8191, 1023, 17407, 50175, 115711, 262143, 524287, 1048575, 2097151, 4194303, 8388607, 16777215, 33554431, 4194303, 71303167, 205520895, 473956351, 1073741823, 2147483647, 4294967295] (by kernel_rfl) (by repeat (first | exact Reg.NoQ.body (fun _ _ h => h) (fun _ h => h) | refine Reg.NoQ.then ?_ | refine Reg.NoQ.inBlock ?_)) ?_
      go_wp2_with fail
      refine Calls.ret (eqB_any (xs := ac) (ys := ac) (w := w.drew) hMM.out.acc hNN.out.acc rfl rfl (by omega) (by omega)) ?_
      rintro v w2 ⟨rfl, hb2⟩
      rw [decide_eq_true (rfl : ac = ac)]
      have hk2 := Kept.of_below hb2 (fun _ => False)
      have hkd : Kept w w2 (fun _ => False) := ⟨hk2.os, hk2.tape, hk2.output, hk2.size, hk2.block⟩
      have hM2 := hide (hMM.out.keep hkd fun _ _ _ h => h.elim)
      have hN2 := hide (hNN.out.keep hkd fun _ _ _ h => h.elim)
      have hcm2 := hM2.out.blk.cell
      have hcn2 := hN2.out.blk.cell
      have hL2 : w2.ownsRow base 3 1 (.slice A1 lf.length c1) lf.length (lf.map encN) := hM2.out.lfs
      have hL2' : w2.ownsRow base' 3 1 (.slice A1' lf'.length c1') lf'.length (lf'.map encN) := hN2.out.lfs
      have hHL2 := hide hL2
      have hHL2' := hide hL2'
      have hbd := hide (hdb.out.trans hb2)
      clear hk2 hkd hb2 hL2 hL2' hcm hcn
      go_wp2_with fail
      refine Calls.ret (eqN_any (xs := lf) (ys := lf') hHL2.out hHL2'.out rfl rfl (by rw [hE1.out]; omega) (by rw [hE2.out]; omega)) ?_
      rintro v w3 ⟨rfl, hb3⟩
      rw [decide_eq_false hH2.out]
      have hfin := hide (hbd.out.trans (hb3.mono hbd.out.size))
      clear hb3
      go_wp2_with fail
      go_ret
      exact ⟨congrArg Value.bool (decide_eq_false hNE.out).symm, hfin.out⟩
  · have hne : ¬ (ac = ac' ∧ lf = lf' ∧ t = t') := fun e => h1 e.1
    have hNE := hide hne
    have hH1 := hide h1
    clear hne h1
    go_enter Try.func72, Try.ntmps72
    go_wp2_with fail
    refine Reg.region_plain [0, 1, 3, 7, 0, 16, 48, 112, 255, 511, 1023, 2047, 4095, 8191, 1023, 17407, 50175, 115711, 262143, 524287, 1048575, 2097151, 4194303, 8388607, 16777215, 33554431, 4194303, 71303167, 205520895, 473956351, 1073741823, 2147483647, 4294967295] (by kernel_rfl) (by repeat (first | exact Reg.NoQ.body (fun _ _ h => h) (fun _ h => h) | refine Reg.NoQ.then ?_ | refine Reg.NoQ.inBlock ?_)) ?_
    go_wp2_with fail
    refine Calls.ret (eqB_any (xs := ac) (ys := ac') (w := w.drew) hMM.out.acc hNN.out.acc rfl rfl (by omega) (by omega)) ?_
    rintro v w2 ⟨rfl, hb2⟩
    rw [decide_eq_false hH1.out]
    have hfin := hide (hdb.out.trans hb2)
    clear hb2
    go_wp2_with fail
    go_ret
    exact ⟨congrArg Value.bool (decide_eq_false hNE.out).symm, hfin.out⟩
end Go.Proofs.Ytnimlcbgeiajiaa

namespace Go.Proofs.Ytnimlcbgeiajiaa
open Go.RowKit

theorem empty_law {L : Nat} {ac : List Bool} {lf : List Nat} {t : List (List (List Nat))} {Λ : Tr → Bool} (hc : Canon L ac.length (mleaf lf) (mbr t) (macc ac) Λ) : (!decide (true ∈ ac)) = true ↔ ∀ u : Tr, u.ok L → Λ u = false := by
  rw [Bool.not_eq_true', decide_eq_false_iff_not]
  constructor
  · intro h u hu
    cases e : Λ u with
    | false => rfl
    | true =>
      refine absurd ?_ h
      have := hc.lang u hu
      rw [e] at this
      obtain ⟨x, hx⟩ := get_lt (hc.isM.run_lt u hu)
      unfold macc at this
      rw [getD_some hx] at this
      rw [← this]
      exact List.mem_of_getElem? hx
  · intro h hm
    obtain ⟨q, hq⟩ := List.mem_iff_getElem?.1 hm
    obtain ⟨u, hu, e⟩ := reach_run.1 (hc.isM.reach q (lt_of_get hq))
    have := hc.lang u hu
    rw [h u hu, e] at this
    unfold macc at this
    rw [getD_some hq] at this
    cases this

theorem data_same {L : Nat} {ac ac' : List Bool} {lf lf' : List Nat} {t t' : List (List (List Nat))} {Λ Λ' : Tr → Bool} (h : MOK L ac lf t) (h' : MOK L ac' lf' t') (hc : Canon L ac.length (mleaf lf) (mbr t) (macc ac) Λ)
    (hc' : Canon L ac'.length (mleaf lf') (mbr t') (macc ac') Λ') : (ac = ac' ∧ lf = lf' ∧ t = t') ↔ ∀ u : Tr, u.ok L → Λ u = Λ' u := by
  constructor
  · rintro ⟨rfl, rfl, rfl⟩ u hu
    rw [← hc.lang u hu, ← hc'.lang u hu]
  · intro hΛ
    obtain ⟨hn, h1, h2, h3⟩ := hc.unique hc' hΛ
    have e1 : ac = ac' := by
      refine List.ext_getElem? fun i => ?_
      by_cases hi : i < ac.length
      · obtain ⟨x, hx⟩ := get_lt hi
        obtain ⟨y, hy⟩ := get_lt (l := ac') (i := i) (by omega)
        have := h3 i hi
        unfold macc at this
        rw [getD_some hx, getD_some hy] at this
        rw [hx, hy, this]
      · rw [List.getElem?_eq_none (by omega), List.getElem?_eq_none (by omega)]
    have e2 : lf = lf' := by
      have a1 := h.lfl
      have a2 := h'.lfl
      refine List.ext_getElem? fun i => ?_
      by_cases hi : i < L
      · obtain ⟨x, hx⟩ := get_lt (l := lf) (i := i) (by omega)
        obtain ⟨y, hy⟩ := get_lt (l := lf') (i := i) (by omega)
        have := h1 i hi
        unfold mleaf at this
        rw [getD_some hx, getD_some hy] at this
        rw [hx, hy, this]
      · rw [List.getElem?_eq_none (by omega), List.getElem?_eq_none (by omega)]
    subst e1 e2
    refine ⟨rfl, rfl, tab_ext h h' fun i hi j hj => ?_⟩
    obtain ⟨r, hr⟩ := get_lt (l := t) (i := i) (by rw [h.tl]; exact hi)
    obtain ⟨row, hrow⟩ := get_lt (l := r) (i := j) (by rw [(h.rl i r hr).1]; exact hj)
    obtain ⟨r', hr'⟩ := get_lt (l := t') (i := i) (by rw [h'.tl]; exact hi)
    obtain ⟨row', hrow'⟩ := get_lt (l := r') (i := j) (by rw [(h'.rl i r' hr').1]; exact hj)
    have a1 := (h.rl i r hr).2 j row hrow
    have a2 := (h'.rl i r' hr').2 j row' hrow'
    unfold rowAt
    rw [getD_some hr, getD_some hr', getD_some hrow, getD_some hrow']
    refine List.ext_getElem? fun k => ?_
    by_cases hk : k < L
    · obtain ⟨x, hx⟩ := get_lt (l := row) (i := k) (by omega)
      obtain ⟨y, hy⟩ := get_lt (l := row') (i := k) (by omega)
      have := h2 k i j hk hi hj
      unfold mbr at this
      rw [getD_some hr, getD_some hr', getD_some hrow, getD_some hrow', getD_some hx, getD_some hy] at this
      rw [hx, hy, this]
    · rw [List.getElem?_eq_none (by omega), List.getElem?_eq_none (by omega)]

/-- What Included and Same return. -/
def IncR (P : Prop) (a b : TA) (r : Value) : Prop :=
  (chkL [a, b] = false ∧ r = .tuple #[.bool false, .int .i64 1]) ∨
  (chkL [a, b] = true ∧ (a.Large ∨ b.Large) ∧ r = .tuple #[.bool false, .int .i64 4]) ∨
  (chkL [a, b] = true ∧ ¬ a.Large ∧ ¬ b.Large ∧ ∃ x : Bool, r = .tuple #[.bool x, .int .i64 0] ∧ (x = true ↔ P))
def Incl (a b : TA) : Prop := ∀ u : Tr, u.ok a.letters.toNat → a.lang u = true → b.lang u = true
def SameL (a b : TA) : Prop := ∀ u : Tr, u.ok a.letters.toNat → a.lang u = b.lang u

set_option maxHeartbeats 4000000 in
set_option maxRecDepth 100000 in
theorem included_any {v v' : Value} {a b : TA} {w : World} (h : IsTA w w.heap.size v a) (h' : IsTA w w.heap.size v' b) (ha : a.branches.length ≤ 900000) (hb : b.branches.length ≤ 900000) :
    Calls Try.prog 38 #[v, v'] w (Ret fun r w' => IncR (Incl a b) a b r ∧ Below w.heap.size w w') := by
  obtain ⟨A1, c1, A2, c2, A3, c3, rfl, h1, h2, h3⟩ := h
  obtain ⟨A4, c4, A5, c5, A6, c6, rfl, h4, h5, h6⟩ := h'
  obtain ⟨w1, hw1, hb1, hB1, hk1⟩ := box_blk w #[.int .i64 a.letters, .int .i64 a.states, .slice A1 a.accept.length c1, .slice A2 a.leaves.length c2, .slice A3 a.branches.length c3] 26
  obtain ⟨w2, hw2, hb2, hB2, hk2⟩ := box_blk w1 #[.int .i64 b.letters, .int .i64 b.states, .slice A4 b.accept.length c4, .slice A5 b.leaves.length c5, .slice A6 b.branches.length c6] 26
  have z1 := hb1.size
  have z2 := hb2.size
  have hb02 := hb1.trans (hb2.mono z1)
  have hB12 := hB1.kept hk2 id
  have hcb1 := hB12.cell
  have hcb2 := hB2.cell
  have hT1 : Hid (IsTA w2 w2.heap.size (.agg #[.int .i64 a.letters, .int .i64 a.states, .slice A1 a.accept.length c1, .slice A2 a.leaves.length c2, .slice A3 a.branches.length c3]) a) := IsTA.keep ⟨A1, c1, A2, c2, A3, c3, rfl, h1, h2, h3⟩ (fun _ hp => hb02.cell hp) hb02.size
  have hT2 : Hid (IsTA w2 w2.heap.size (.agg #[.int .i64 b.letters, .int .i64 b.states, .slice A4 b.accept.length c4, .slice A5 b.leaves.length c5, .slice A6 b.branches.length c6]) b) := IsTA.keep ⟨A4, c4, A5, c5, A6, c6, rfl, h4, h5, h6⟩ (fun _ hp => hb02.cell hp) hb02.size
  have hH02 := hide hb02
  clear h1 h2 h3 h4 h5 h6 hb02 hb1 hb2
  go_enter Try.func38, Try.ntmps38
  go_wp2_with fail
  refine Calls.ret (pair_any hT1.out hT2.out ha hb) ?_
  rintro v w3 ⟨hb3, hR⟩
  have hb03 := hide (hH02.out.trans (hb3.mono hH02.out.size))
  rcases hR with ⟨hch, x, y, rfl⟩ | ⟨hch, hl, x, y, rfl⟩ | ⟨hch, hla, hlb, gM, ac, lf, t, gN, ac', lf', t', rfl, hM, hok, hn, hcan, hN, hok', hn', hcan'⟩
  · have hC := hide hch
    clear hch hb3
    go_wp2_with fail
    exact bodyPost_ret (v := .tuple #[.bool false, .int .i64 1]) (by simp [results, Try.results38, go_sem]) rfl ⟨.inl ⟨hC.out, rfl⟩, hb03.out⟩
  · have hC := hide hch
    have hLL := hide hl
    clear hch hl hb3
    go_wp2_with fail
    exact bodyPost_ret (v := .tuple #[.bool false, .int .i64 4]) (by simp [results, Try.results38, go_sem]) rfl ⟨.inr (.inl ⟨hC.out, hLL.out, rfl⟩), hb03.out⟩
  · have hC := hide hch
    have hLA := hide hla
    have hLB := hide hlb
    have hMM := hide hM
    have hNN := hide hN
    have hOK := hide hok
    have hOK' := hide hok'
    have hCA := hide hcan
    have hCB := hide hcan'
    clear hch hla hlb hM hN hok hok' hcan hcan' hb3
    go_wp2_with fail
    refine Calls.ret (op_any (.inr (.inr ⟨rfl, rfl⟩)) w3) ?_
    rintro v w4 ⟨rfl, hb4⟩
    have hM4 := hide (hMM.out.keep0 (Kept.of_below hb4 (fun _ => False)))
    have hN4 := hide (hNN.out.keep0 (Kept.of_below hb4 (fun _ => False)))
    have hb04 := hide (hb03.out.trans (hb4.mono hb03.out.size))
    have hv := (TA.valid_parts (chk2.1 hC.out).1)
    have hL1 : 0 < a.letters.toNat := by have := hv.1; omega
    have hL8 : a.letters.toNat ≤ 8 := by have := hv.2.1; omega
    clear hv hb4
    go_wp2_with fail
    obtain ⟨va, vl, vb, hM5⟩ := hM4.out
    obtain ⟨va', vl', vb', hN5⟩ := hN4.out
    refine Calls.ret (product_any hM5 hN5 hOK.out hOK'.out hL1 hL8 hn hn' (.inr (.inr ⟨rfl, rfl⟩))) ?_
    rintro v w5 ⟨hb5, gR, ar, lr, tr, rfl, -, hMr, hokr, hle, hcr⟩
    have hMR := hide hMr
    have hCR := hide hcr
    have hb05 := hide (hb04.out.trans (hb5.mono hb04.out.size))
    have hlen : ar.length ≤ 100000 := by have : ac.length * ac'.length ≤ 64 * 64 := Nat.mul_le_mul hn hn'; omega
    clear hMr hokr hle hcr hb5 hM5 hN5
    go_wp2_with fail
    obtain ⟨_, _, _, hM6⟩ := hMR.out
    refine (empty_any hM6 hlen).mono ?_
    rintro e w6 ⟨rfl, rfl⟩
    go_wp2_with fail
    refine bodyPost_ret (v := .tuple #[.bool (!decide (true ∈ ar)), .int .i64 0]) (by simp [results, Try.results38, go_sem]) rfl ⟨.inr (.inr ⟨hC.out, hLA.out, hLB.out, _, rfl, ?_⟩), hb05.out⟩
    rw [empty_law hCR.out]
    constructor
    · intro hh u hu hx
      have := hh u hu
      rw [hCA.out.lang u hu, hCB.out.lang u hu, hx] at this
      cases hy : b.lang u with
      | true => rfl
      | false => rw [hy] at this; cases this
    · intro hh u hu
      rw [hCA.out.lang u hu, hCB.out.lang u hu]
      cases hx : a.lang u with
      | false => rfl
      | true => rw [hh u hu hx]; rfl

set_option maxHeartbeats 4000000 in
set_option maxRecDepth 100000 in
theorem same_any {v v' : Value} {a b : TA} {w : World} (h : IsTA w w.heap.size v a) (h' : IsTA w w.heap.size v' b) (ha : a.branches.length ≤ 900000) (hb : b.branches.length ≤ 900000) :
    Calls Try.prog 40 #[v, v'] w (Ret fun r w' => IncR (SameL a b) a b r ∧ Below w.heap.size w w') := by
  obtain ⟨A1, c1, A2, c2, A3, c3, rfl, h1, h2, h3⟩ := h
  obtain ⟨A4, c4, A5, c5, A6, c6, rfl, h4, h5, h6⟩ := h'
  obtain ⟨w1, hw1, hb1, hB1, hk1⟩ := box_blk w #[.int .i64 a.letters, .int .i64 a.states, .slice A1 a.accept.length c1, .slice A2 a.leaves.length c2, .slice A3 a.branches.length c3] 26
  obtain ⟨w2, hw2, hb2, hB2, hk2⟩ := box_blk w1 #[.int .i64 b.letters, .int .i64 b.states, .slice A4 b.accept.length c4, .slice A5 b.leaves.length c5, .slice A6 b.branches.length c6] 26
  have z1 := hb1.size
  have z2 := hb2.size
  have hb02 := hb1.trans (hb2.mono z1)
  have hB12 := hB1.kept hk2 id
  have hcb1 := hB12.cell
  have hcb2 := hB2.cell
  have hT1 : Hid (IsTA w2 w2.heap.size (.agg #[.int .i64 a.letters, .int .i64 a.states, .slice A1 a.accept.length c1, .slice A2 a.leaves.length c2, .slice A3 a.branches.length c3]) a) := IsTA.keep ⟨A1, c1, A2, c2, A3, c3, rfl, h1, h2, h3⟩ (fun _ hp => hb02.cell hp) hb02.size
  have hT2 : Hid (IsTA w2 w2.heap.size (.agg #[.int .i64 b.letters, .int .i64 b.states, .slice A4 b.accept.length c4, .slice A5 b.leaves.length c5, .slice A6 b.branches.length c6]) b) := IsTA.keep ⟨A4, c4, A5, c5, A6, c6, rfl, h4, h5, h6⟩ (fun _ hp => hb02.cell hp) hb02.size
  have hH02 := hide hb02
  clear h1 h2 h3 h4 h5 h6 hb02 hb1 hb2
  go_enter Try.func40, Try.ntmps40
  go_wp2_with fail
  refine Calls.ret (pair_any hT1.out hT2.out ha hb) ?_
  rintro v w3 ⟨hb3, hR⟩
  have hb03 := hide (hH02.out.trans (hb3.mono hH02.out.size))
  rcases hR with ⟨hch, x, y, rfl⟩ | ⟨hch, hl, x, y, rfl⟩ | ⟨hch, hla, hlb, gM, ac, lf, t, gN, ac', lf', t', rfl, hM, hok, hn, hcan, hN, hok', hn', hcan'⟩
  · have hC := hide hch
    clear hch hb3
    go_wp2_with fail
    exact bodyPost_ret (v := .tuple #[.bool false, .int .i64 1]) (by simp [results, Try.results40, go_sem]) rfl ⟨.inl ⟨hC.out, rfl⟩, hb03.out⟩
  · have hC := hide hch
    have hLL := hide hl
    clear hch hl hb3
    go_wp2_with fail
    exact bodyPost_ret (v := .tuple #[.bool false, .int .i64 4]) (by simp [results, Try.results40, go_sem]) rfl ⟨.inr (.inl ⟨hC.out, hLL.out, rfl⟩), hb03.out⟩
  · have hC := hide hch
    have hLA := hide hla
    have hLB := hide hlb
    have hMM := hide hM
    have hNN := hide hN
    have hOK := hide hok
    have hOK' := hide hok'
    have hCA := hide hcan
    have hCB := hide hcan'
    have hv := (TA.valid_parts (chk2.1 hC.out).1)
    have hL8 : a.letters.toNat ≤ 8 := by have := hv.2.1; omega
    clear hch hla hlb hM hN hok hok' hcan hcan' hb3 hv
    go_wp2_with fail
    obtain ⟨va, vl, vb, hM5⟩ := hMM.out
    obtain ⟨va', vl', vb', hN5⟩ := hNN.out
    refine Calls.ret (equal_any hM5 hN5 hOK.out hOK'.out hL8 hn hn') ?_
    rintro v w4 ⟨rfl, hb4⟩
    have hb04 := hide (hb03.out.trans (hb4.mono hb03.out.size))
    clear hb4 hM5 hN5
    go_wp2_with fail
    refine bodyPost_ret (v := .tuple #[.bool (decide (ac = ac' ∧ lf = lf' ∧ t = t')), .int .i64 0]) (by simp [results, Try.results40, go_sem]) rfl ⟨.inr (.inr ⟨hC.out, hLA.out, hLB.out, _, rfl, ?_⟩), hb04.out⟩
    rw [decide_eq_true_eq]
    exact data_same hOK.out hOK'.out hCA.out hCB.out
end Go.Proofs.Ytnimlcbgeiajiaa

namespace Go.Proofs.Ytnimlcbgeiajiaa
open Go.RowKit

section
variable {P P1 P2 P3 : Prop} {a b : TA} {r : Value} {x y s : Bool} {e e' e'' : Int}
theorem IncR.shape (h : IncR P a b r) : ∃ (x : Bool) (e : Int), r = .tuple #[.bool x, .int .i64 e] := by
  rcases h with ⟨_, rfl⟩ | ⟨_, _, rfl⟩ | ⟨_, _, _, x, rfl, _⟩
  · exact ⟨_, _, rfl⟩
  · exact ⟨_, _, rfl⟩
  · exact ⟨_, _, rfl⟩
theorem tup_eq {x' : Bool} (h : Value.tuple #[.bool x, .int .i64 e] = .tuple #[.bool x', .int .i64 e']) : x = x' ∧ e = e' := by
  injection h with h
  simpa using h
theorem IncR.bad (h : IncR P a b (.tuple #[.bool x, .int .i64 e])) (hc : chkL [a, b] = false) : e = 1 := by
  rcases h with ⟨_, h⟩ | ⟨h, _⟩ | ⟨h, _⟩
  · exact (tup_eq h).2
  · rw [hc] at h; cases h
  · rw [hc] at h; cases h
theorem IncR.large (h : IncR P a b (.tuple #[.bool x, .int .i64 e])) (hc : chkL [a, b] = true) (hl : a.Large ∨ b.Large) : e = 4 := by
  rcases h with ⟨h, _⟩ | ⟨_, _, h⟩ | ⟨_, h1, h2, _⟩
  · rw [hc] at h; cases h
  · exact (tup_eq h).2
  · exact (hl.elim h1 h2).elim
theorem IncR.good (h : IncR P a b (.tuple #[.bool x, .int .i64 e])) (hc : chkL [a, b] = true) (h1 : ¬ a.Large) (h2 : ¬ b.Large) : e = 0 ∧ (x = true ↔ P) := by
  rcases h with ⟨h, _⟩ | ⟨_, hl, _⟩ | ⟨_, _, _, x', h, h3⟩
  · rw [hc] at h; cases h
  · exact (hl.elim h1 h2).elim
  · obtain ⟨rfl, rfl⟩ := tup_eq h
    exact ⟨rfl, h3⟩
theorem chk_comm (a b : TA) : chkL [b, a] = chkL [a, b] := by
  rw [Bool.eq_iff_iff, chk2, chk2]
  exact ⟨fun ⟨h1, h2, h3⟩ => ⟨h2, h1, h3.symm⟩, fun ⟨h1, h2, h3⟩ => ⟨h2, h1, h3.symm⟩⟩
theorem inc_three (h1 : IncR P1 a b (.tuple #[.bool x, .int .i64 e])) (h2 : IncR P2 b a (.tuple #[.bool y, .int .i64 e'])) (h3 : IncR P3 a b (.tuple #[.bool s, .int .i64 e''])) :
    (e ≠ 0 ∧ e' = e ∧ e'' = e) ∨ (chkL [a, b] = true ∧ ¬ a.Large ∧ ¬ b.Large ∧ e = 0 ∧ e' = 0 ∧ e'' = 0 ∧ (x = true ↔ P1) ∧ (y = true ↔ P2) ∧ (s = true ↔ P3)) := by
  cases hc : chkL [a, b] with
  | false =>
    have e1 := h1.bad hc
    have e2 := h2.bad (by rw [chk_comm, hc])
    have e3 := h3.bad hc
    exact .inl ⟨by omega, by omega, by omega⟩
  | true =>
    by_cases hl : a.Large ∨ b.Large
    · have e1 := h1.large hc hl
      have e2 := h2.large (by rw [chk_comm, hc]) hl.symm
      have e3 := h3.large hc hl
      exact .inl ⟨by omega, by omega, by omega⟩
    · have la : ¬ a.Large := fun h => hl (.inl h)
      have lb : ¬ b.Large := fun h => hl (.inr h)
      obtain ⟨e1, q1⟩ := h1.good hc la lb
      obtain ⟨e2, q2⟩ := h2.good (by rw [chk_comm, hc]) lb la
      obtain ⟨e3, q3⟩ := h3.good hc la lb
      exact .inr ⟨rfl, la, lb, e1, e2, e3, q1, q2, q3⟩
theorem both_same (hl : b.letters = a.letters) (hx : x = true ↔ Incl a b) (hy : y = true ↔ Incl b a) (hs : s = true ↔ SameL a b) : s = (x && y) := by
  rw [Bool.eq_iff_iff, Bool.and_eq_true, hs, hx, hy]
  constructor
  · exact fun h => ⟨fun u hu ha => by rw [← h u hu, ha], fun u hu hb => by rw [hl] at hu; rw [h u hu, hb]⟩
  · rintro ⟨h1, h2⟩ u hu
    rw [Bool.eq_iff_iff]
    exact ⟨h1 u hu, h2 u (by rw [hl]; exact hu)⟩
end
theorem plain_iff {L : Nat} {ac ac' : List Bool} {lf lf' : List Nat} {t t' : List (List (List Nat))} {Λ Λ' : Tr → Bool} (h : MOK L ac lf t) (h' : MOK L ac' lf' t') (hc : Canon L ac.length (mleaf lf) (mbr t) (macc ac) Λ)
    (hc' : Canon L ac'.length (mleaf lf') (mbr t') (macc ac') Λ') : plainA L ac lf t = plainA L ac' lf' t' ↔ ∀ u : Tr, u.ok L → Λ u = Λ' u := by
  constructor
  · intro e u hu
    rw [← hc.lang u hu, ← hc'.lang u hu, ← plain_lang h u hu, ← plain_lang h' u hu, e]
  · intro hΛ
    exact (plain_same h h' hc hc' hΛ).symm

end Go.Proofs.Ytnimlcbgeiajiaa

namespace Go.Proofs.Ytnimlcbgeiajiaa
open Go.RowKit

theorem MinRel.good0 {a p : TA} (h : MinRel a 0 p) : ¬ a.Large ∧ ∃ ac lf t, MOK a.letters.toNat ac lf t ∧ ac.length ≤ 64 ∧ Canon a.letters.toNat ac.length (mleaf lf) (mbr t) (macc ac) a.lang ∧ p = plainA a.letters.toNat ac lf t := by
  rcases h with ⟨-, h, -⟩ | ⟨-, -, h, -⟩ | ⟨-, h, -, h'⟩
  · omega
  · omega
  · exact ⟨h, h'⟩

set_option maxHeartbeats 8000000 in
set_option maxRecDepth 100000 in
theorem refIncluded_any {v v' : Value} {a b : TA} {w : World} (h : IsTA w w.heap.size v a) (h' : IsTA w w.heap.size v' b) :
    Calls Try.prog 39 #[v, v'] w (Ret fun r w' => IncR (Incl a b) a b r ∧ Below w.heap.size w w') := by
  obtain ⟨A1, c1, A2, c2, A3, c3, rfl, h1, h2, h3⟩ := h
  obtain ⟨A4, c4, A5, c5, A6, c6, rfl, h4, h5, h6⟩ := h'
  obtain ⟨w1, hw1, hb1, hB1, hk1⟩ := box_blk w #[.int .i64 a.letters, .int .i64 a.states, .slice A1 a.accept.length c1, .slice A2 a.leaves.length c2, .slice A3 a.branches.length c3] 26
  obtain ⟨w2, hw2, hb2, hB2, hk2⟩ := box_blk w1 #[.int .i64 b.letters, .int .i64 b.states, .slice A4 b.accept.length c4, .slice A5 b.leaves.length c5, .slice A6 b.branches.length c6] 26
  have z1 := hb1.size
  have z2 := hb2.size
  have hb02 := hb1.trans (hb2.mono z1)
  have hB12 := hB1.kept hk2 id
  have hcb1 := hB12.cell
  have hcb2 := hB2.cell
  have hT1 : Hid (IsTA w2 w2.heap.size (.agg #[.int .i64 a.letters, .int .i64 a.states, .slice A1 a.accept.length c1, .slice A2 a.leaves.length c2, .slice A3 a.branches.length c3]) a) := IsTA.keep ⟨A1, c1, A2, c2, A3, c3, rfl, h1, h2, h3⟩ (fun _ hp => hb02.cell hp) hb02.size
  have hT2 : Hid (IsTA w2 w2.heap.size (.agg #[.int .i64 b.letters, .int .i64 b.states, .slice A4 b.accept.length c4, .slice A5 b.leaves.length c5, .slice A6 b.branches.length c6]) b) := IsTA.keep ⟨A4, c4, A5, c5, A6, c6, rfl, h4, h5, h6⟩ (fun _ hp => hb02.cell hp) hb02.size
  have hH02 := hide hb02
  clear h1 h2 h3 h4 h5 h6 hb02 hb1 hb2
  go_enter Try.func39, Try.ntmps39
  go_wp2_with fail
  refine Calls.ret (refboth_any _ _ a b _ hT1.out hT2.out) ?_
  rintro v w3 ⟨hb3, v1, v2, p, q, e, rfl, hp, hq, hR⟩
  have hb03 := hide (hH02.out.trans (hb3.mono hH02.out.size))
  have iP3 := hide hp
  have iQ3 := hide hq
  obtain ⟨P2, a2, P3, a3, P4, a4, rfl, -, -, -⟩ := hp
  obtain ⟨Q2, b2, Q3, b3, Q4, b4, rfl, -, -, -⟩ := hq
  obtain ⟨wx, hwx, hbx, hBx, hkx⟩ := box_blk w3 #[.int .i64 0, .int .i64 0, .slice none 0 0, .slice none 0 0, .slice none 0 0] 26
  obtain ⟨wy, hwy, hby, hBy, hky⟩ := box_blk wx #[.int .i64 0, .int .i64 0, .slice none 0 0, .slice none 0 0, .slice none 0 0] 26
  have z3 := hb3.size
  have zx := hbx.size
  have zy := hby.size
  have lx := hBx.lt
  have hBx' := hBx.kept hky id
  have hcx := hBx'.cell
  have hfx := hBx'.frozen
  have hlx := hBx'.lt
  obtain ⟨w4, hw4, hB4, hk4⟩ := set5_facts hBx' (.int .i64 p.letters) (.int .i64 p.states) (.slice P2 p.accept.length a2) (.slice P3 p.leaves.length a3) (.slice P4 p.branches.length a4)
  have hBy' := hBy.kept hk4 (by omega)
  have hcy := hBy'.cell
  have hfy := hBy'.frozen
  have hly := hBy'.lt
  obtain ⟨w5, hw5, hB5, hk5⟩ := set5_facts hBy' (.int .i64 q.letters) (.int .i64 q.states) (.slice Q2 q.accept.length b2) (.slice Q3 q.leaves.length b3) (.slice Q4 q.branches.length b4)
  have hB45 := hB4.kept hk5 (by omega)
  have hb3y := hbx.trans (hby.mono zx)
  have hb34 : Below w3.heap.size w3 w4 := hb3y.trans (hk4.below hb3y.size fun _ hb e => by omega)
  have hb35 : Below w3.heap.size w3 w5 := hb34.trans (hk5.below hb34.size fun _ hb e => by omega)
  have hw4' := hw4
  have hw5' := hw5
  simp only [set5] at hw4' hw5'
  have iP5 := hide (iP3.out.keep (fun _ hp => hb35.cell hp) hb35.size)
  have iQ5 := hide (iQ3.out.keep (fun _ hp => hb35.cell hp) hb35.size)
  have z03 := hb03.out.size
  have hb05 := hide (hb03.out.trans (hb35.mono (by omega)))
  have hc45 := hB45.cell
  have hc5 := hB5.cell
  have hB4H := hide hB45
  have hB5H := hide hB5
  have hRH := hide hR
  obtain ⟨e', he'⟩ : ∃ e', e' = e := ⟨_, rfl⟩
  rcases hR with ⟨hch, rfl⟩ | ⟨hch, hl, rfl⟩ | ⟨hch, rfl, hMP, hMQ⟩
  · have hC := hide hch
    clear hch hb3 hcb1 hcb2 hb35 hb34 hb3y hB45 hB4 hB5 hBx hBy hBx' hBy' hbx hby hw4 hw5 hRH he'
    go_wp2_with fail
    exact bodyPost_ret (v := .tuple #[.bool false, .int .i64 1]) (by simp [results, Try.results39, go_sem]) rfl ⟨.inl ⟨hC.out, rfl⟩, hb05.out⟩
  · have hC := hide hch
    have hLL := hide hl
    clear hch hl hb3 hcb1 hcb2 hb35 hb34 hb3y hB45 hB4 hB5 hBx hBy hBx' hBy' hbx hby hw4 hw5 hRH he'
    go_wp2_with fail
    exact bodyPost_ret (v := .tuple #[.bool false, .int .i64 4]) (by simp [results, Try.results39, go_sem]) rfl ⟨.inr (.inl ⟨hC.out, hLL.out, rfl⟩), hb05.out⟩
  · have hC := hide hch
    obtain ⟨hnl, ac, lf, t, hok, hle, hcan, hpe⟩ := MinRel.good0 hMP
    obtain ⟨hnl', ac', lf', t', hok', hle', hcan', hqe⟩ := MinRel.good0 hMQ
    have hpH := hide hpe
    have hqH := hide hqe
    have hOK := hide hok
    have hOK' := hide hok'
    have hCA := hide hcan
    have hCB := hide hcan'
    have hLA := hide hnl
    have hLB := hide hnl'
    have hLL := hide (chk2.1 hch).2.2
    have hv := (TA.valid_parts (chk2.1 hch).1)
    have hL8 : a.letters.toNat ≤ 8 := by have := hv.2.1; omega
    have hL1 : 1 ≤ a.letters.toNat := by have := hv.1; omega
    clear hch hb3 hcb1 hcb2 hb35 hb34 hb3y hB45 hB4 hB5 hBx hBy hBx' hBy' hbx hby hw4 hw5 hRH he' hMP hMQ hnl hnl' hok hok' hcan hcan' hpe hqe hv
    go_wp2_with fail
    have hLLo := hLL.out
    have hok2 := hOK'.out
    have hcan2 := hCB.out
    have hq2 := hqH.out
    rw [hLLo] at hok2 hcan2 hq2
    refine inc_out (L := a.letters.toNat) hpH hq2 hB4H.out hB5H.out iP5.out iQ5.out hOK.out hok2 hL8 hL1 hle hle' (isM_N hCA.out.isM hcan2.isM) ?_ ?_
    · repeat (first | exact Reg.NoQ.body (fun _ _ h => h) (fun _ h => h) | refine Reg.NoQ.then ?_ | refine Reg.NoQ.inBlock ?_)
    iterate 6 (intro _)
    intro x w6 hb6 hx
    have hb06 := hide (hb05.out.trans (hb6.mono (by have := hb05.out.size; omega)))
    have hxH := hide hx
    clear hx hb6 hok2 hcan2 hq2 hLLo
    go_wp2_with fail
    refine bodyPost_ret (v := .tuple #[.bool x, .int .i64 0]) (by simp [results, Try.results39, go_sem]) rfl ⟨.inr (.inr ⟨hC.out, hLA.out, hLB.out, _, rfl, ?_⟩), hb06.out⟩
    have hcan2 := hCB.out
    rw [hLL.out] at hcan2
    rw [show (x = true ↔ _) from hxH.out]
    constructor
    · intro hh u hu hx
      have := hh u hu
      rw [hCA.out.lang u hu, hcan2.lang u hu, hx] at this
      cases hy : b.lang u with
      | true => rfl
      | false => rw [hy] at this; cases this
    · intro hh u hu
      rw [hCA.out.lang u hu, hcan2.lang u hu]
      cases hx : a.lang u with
      | false => rfl
      | true => rw [hh u hu hx]; rfl

set_option maxHeartbeats 8000000 in
set_option maxRecDepth 100000 in
theorem refSame_any {v v' : Value} {a b : TA} {w : World} (h : IsTA w w.heap.size v a) (h' : IsTA w w.heap.size v' b) :
    Calls Try.prog 41 #[v, v'] w (Ret fun r w' => IncR (SameL a b) a b r ∧ Below w.heap.size w w') := by
  obtain ⟨A1, c1, A2, c2, A3, c3, rfl, h1, h2, h3⟩ := h
  obtain ⟨A4, c4, A5, c5, A6, c6, rfl, h4, h5, h6⟩ := h'
  obtain ⟨w1, hw1, hb1, hB1, hk1⟩ := box_blk w #[.int .i64 a.letters, .int .i64 a.states, .slice A1 a.accept.length c1, .slice A2 a.leaves.length c2, .slice A3 a.branches.length c3] 26
  obtain ⟨w2, hw2, hb2, hB2, hk2⟩ := box_blk w1 #[.int .i64 b.letters, .int .i64 b.states, .slice A4 b.accept.length c4, .slice A5 b.leaves.length c5, .slice A6 b.branches.length c6] 26
  have z1 := hb1.size
  have z2 := hb2.size
  have hb02 := hb1.trans (hb2.mono z1)
  have hB12 := hB1.kept hk2 id
  have hcb1 := hB12.cell
  have hcb2 := hB2.cell
  have hT1 : Hid (IsTA w2 w2.heap.size (.agg #[.int .i64 a.letters, .int .i64 a.states, .slice A1 a.accept.length c1, .slice A2 a.leaves.length c2, .slice A3 a.branches.length c3]) a) := IsTA.keep ⟨A1, c1, A2, c2, A3, c3, rfl, h1, h2, h3⟩ (fun _ hp => hb02.cell hp) hb02.size
  have hT2 : Hid (IsTA w2 w2.heap.size (.agg #[.int .i64 b.letters, .int .i64 b.states, .slice A4 b.accept.length c4, .slice A5 b.leaves.length c5, .slice A6 b.branches.length c6]) b) := IsTA.keep ⟨A4, c4, A5, c5, A6, c6, rfl, h4, h5, h6⟩ (fun _ hp => hb02.cell hp) hb02.size
  have hH02 := hide hb02
  clear h1 h2 h3 h4 h5 h6 hb02 hb1 hb2
  go_enter Try.func41, Try.ntmps41
  go_wp2_with fail
  refine Calls.ret (refboth_any _ _ a b _ hT1.out hT2.out) ?_
  rintro v w3 ⟨hb3, v1, v2, p, q, e, rfl, hp, hq, hR⟩
  have hb03 := hide (hH02.out.trans (hb3.mono hH02.out.size))
  have iP3 := hide hp
  have iQ3 := hide hq
  obtain ⟨P2, a2, P3, a3, P4, a4, rfl, -, -, -⟩ := hp
  obtain ⟨Q2, b2, Q3, b3, Q4, b4, rfl, -, -, -⟩ := hq
  obtain ⟨wx, hwx, hbx, hBx, hkx⟩ := box_blk w3 #[.int .i64 0, .int .i64 0, .slice none 0 0, .slice none 0 0, .slice none 0 0] 26
  obtain ⟨wy, hwy, hby, hBy, hky⟩ := box_blk wx #[.int .i64 0, .int .i64 0, .slice none 0 0, .slice none 0 0, .slice none 0 0] 26
  have z3 := hb3.size
  have zx := hbx.size
  have zy := hby.size
  have lx := hBx.lt
  have hBx' := hBx.kept hky id
  have hcx := hBx'.cell
  have hfx := hBx'.frozen
  have hlx := hBx'.lt
  obtain ⟨w4, hw4, hB4, hk4⟩ := set5_facts hBx' (.int .i64 p.letters) (.int .i64 p.states) (.slice P2 p.accept.length a2) (.slice P3 p.leaves.length a3) (.slice P4 p.branches.length a4)
  have hBy' := hBy.kept hk4 (by omega)
  have hcy := hBy'.cell
  have hfy := hBy'.frozen
  have hly := hBy'.lt
  obtain ⟨w5, hw5, hB5, hk5⟩ := set5_facts hBy' (.int .i64 q.letters) (.int .i64 q.states) (.slice Q2 q.accept.length b2) (.slice Q3 q.leaves.length b3) (.slice Q4 q.branches.length b4)
  have hB45 := hB4.kept hk5 (by omega)
  have hb3y := hbx.trans (hby.mono zx)
  have hb34 : Below w3.heap.size w3 w4 := hb3y.trans (hk4.below hb3y.size fun _ hb e => by omega)
  have hb35 : Below w3.heap.size w3 w5 := hb34.trans (hk5.below hb34.size fun _ hb e => by omega)
  have hw4' := hw4
  have hw5' := hw5
  simp only [set5] at hw4' hw5'
  have iP5 := hide (iP3.out.keep (fun _ hp => hb35.cell hp) hb35.size)
  have iQ5 := hide (iQ3.out.keep (fun _ hp => hb35.cell hp) hb35.size)
  have z03 := hb03.out.size
  have hb05 := hide (hb03.out.trans (hb35.mono (by omega)))
  have hc45 := hB45.cell
  have hc5 := hB5.cell
  have hB4H := hide hB45
  have hB5H := hide hB5
  have hRH := hide hR
  obtain ⟨e', he'⟩ : ∃ e', e' = e := ⟨_, rfl⟩
  rcases hR with ⟨hch, rfl⟩ | ⟨hch, hl, rfl⟩ | ⟨hch, rfl, hMP, hMQ⟩
  · have hC := hide hch
    clear hch hb3 hcb1 hcb2 hb35 hb34 hb3y hB45 hB4 hB5 hBx hBy hBx' hBy' hbx hby hw4 hw5 hRH he'
    go_wp2_with fail
    exact bodyPost_ret (v := .tuple #[.bool false, .int .i64 1]) (by simp [results, Try.results41, go_sem]) rfl ⟨.inl ⟨hC.out, rfl⟩, hb05.out⟩
  · have hC := hide hch
    have hLL := hide hl
    clear hch hl hb3 hcb1 hcb2 hb35 hb34 hb3y hB45 hB4 hB5 hBx hBy hBx' hBy' hbx hby hw4 hw5 hRH he'
    go_wp2_with fail
    exact bodyPost_ret (v := .tuple #[.bool false, .int .i64 4]) (by simp [results, Try.results41, go_sem]) rfl ⟨.inr (.inl ⟨hC.out, hLL.out, rfl⟩), hb05.out⟩
  · have hC := hide hch
    obtain ⟨hnl, ac, lf, t, hok, hle, hcan, hpe⟩ := MinRel.good0 hMP
    obtain ⟨hnl', ac', lf', t', hok', hle', hcan', hqe⟩ := MinRel.good0 hMQ
    have hpH := hide hpe
    have hqH := hide hqe
    have hOK := hide hok
    have hOK' := hide hok'
    have hCA := hide hcan
    have hCB := hide hcan'
    have hLA := hide hnl
    have hLB := hide hnl'
    have hLL := hide (chk2.1 hch).2.2
    have hv := (TA.valid_parts (chk2.1 hch).1)
    have hL8 : a.letters.toNat ≤ 8 := by have := hv.2.1; omega
    have hL1 : 1 ≤ a.letters.toNat := by have := hv.1; omega
    clear hch hb3 hcb1 hcb2 hb35 hb34 hb3y hB45 hB4 hB5 hBx hBy hBx' hBy' hbx hby hw4 hw5 hRH he' hMP hMQ hnl hnl' hok hok' hcan hcan' hpe hqe hv
    go_wp2_with fail
    refine Calls.ret (sameAutomaton_any iP5.out iQ5.out) ?_
    rintro r w6 ⟨rfl, hb6⟩
    have hb06 := hide (hb05.out.trans (hb6.mono (by have := hb05.out.size; omega)))
    clear hb6
    generalize hd : decide (p = q) = d
    have hdH := hide hd
    clear hd
    go_wp2_with fail
    refine bodyPost_ret (v := .tuple #[.bool d, .int .i64 0]) (by simp [results, Try.results41, go_sem]) rfl ⟨.inr (.inr ⟨hC.out, hLA.out, hLB.out, _, rfl, ?_⟩), hb06.out⟩
    have hok2 := hOK'.out
    have hcan2 := hCB.out
    have hq2 := hqH.out
    rw [hLL.out] at hok2 hcan2 hq2
    rw [← hdH.out, decide_eq_true_eq, hpH.out, hq2]
    exact plain_iff hOK.out hok2 hCA.out hcan2
end Go.Proofs.Ytnimlcbgeiajiaa

namespace Go.Proofs.Ytnimlcbgeiajiaa
open Go.RowKit

/-- The boxes of a law on two automata. -/
structure L2 (w0 w : World) (ga gb : Nat) (va vb : Array Value) (a b : TA) : Prop where
  below : Below w0.heap.size w0 w
  ba : Blk w ga 26 va
  bb : Blk w gb 26 vb
  ta : IsTA w w.heap.size (.agg va) a
  tb : IsTA w w.heap.size (.agg vb) b
theorem L2.step {w0 w w' : World} {ga gb : Nat} {va vb : Array Value} {a b : TA} (h : L2 w0 w ga gb va vb a b) (hb : Below w.heap.size w w') : L2 w0 w' ga gb va vb a b :=
  ⟨h.below.trans (hb.mono h.below.size), h.ba.below hb, h.bb.below hb, h.ta.keep (fun _ hp => hb.cell hp) hb.size, h.tb.keep (fun _ hp => hb.cell hp) hb.size⟩
theorem IncR.unique {P : Prop} {a b : TA} {x y : Bool} {e e' : Int} (h : IncR P a b (.tuple #[.bool x, .int .i64 e])) (h' : IncR P a b (.tuple #[.bool y, .int .i64 e'])) : x = y ∧ e = e' := by
  rcases h with ⟨c, h⟩ | ⟨c, hl, h⟩ | ⟨c, h1, h2, x', h, h3⟩
  · rcases h' with ⟨c', h'⟩ | ⟨c', hl', h'⟩ | ⟨c', h1', h2', y', h', h3'⟩
    · exact ⟨(tup_eq h).1.trans (tup_eq h').1.symm, (tup_eq h).2.trans (tup_eq h').2.symm⟩
    · rw [c] at c'; cases c'
    · rw [c] at c'; cases c'
  · rcases h' with ⟨c', h'⟩ | ⟨c', hl', h'⟩ | ⟨c', h1', h2', y', h', h3'⟩
    · rw [c] at c'; cases c'
    · exact ⟨(tup_eq h).1.trans (tup_eq h').1.symm, (tup_eq h).2.trans (tup_eq h').2.symm⟩
    · exact (hl.elim h1' h2').elim
  · rcases h' with ⟨c', h'⟩ | ⟨c', hl', h'⟩ | ⟨c', h1', h2', y', h', h3'⟩
    · rw [c] at c'; cases c'
    · exact (hl'.elim h1 h2).elim
    · refine ⟨(tup_eq h).1.trans (Eq.trans ?_ (tup_eq h').1.symm), (tup_eq h).2.trans (tup_eq h').2.symm⟩
      rw [Bool.eq_iff_iff]
      exact h3.trans h3'.symm

set_option maxHeartbeats 8000000 in
set_option maxRecDepth 100000 in
theorem lawIncludes {v v' : Value} {a b : TA} {w : World} (h : IsTA w w.heap.size v a) (h' : IsTA w w.heap.size v' b) :
    Calls Try.prog 12 #[v, v'] w (Ret fun v w' => v = .bool true ∧ Below w.heap.size w w') := by
  obtain ⟨A1, c1, A2, c2, A3, c3, rfl, h1, h2, h3⟩ := h
  obtain ⟨A4, c4, A5, c5, A6, c6, rfl, h4, h5, h6⟩ := h'
  obtain ⟨w1, hw1, hb1, hB1, hk1⟩ := box_blk w #[.int .i64 a.letters, .int .i64 a.states, .slice A1 a.accept.length c1, .slice A2 a.leaves.length c2, .slice A3 a.branches.length c3] 26
  obtain ⟨w2, hw2, hb2, hB2, hk2⟩ := box_blk w1 #[.int .i64 b.letters, .int .i64 b.states, .slice A4 b.accept.length c4, .slice A5 b.leaves.length c5, .slice A6 b.branches.length c6] 26
  have hb02 : Below w.heap.size w w2 := hb1.trans (hb2.mono hb1.size)
  have hX2 : L2 w w2 w.heap.size w1.heap.size #[.int .i64 a.letters, .int .i64 a.states, .slice A1 a.accept.length c1, .slice A2 a.leaves.length c2, .slice A3 a.branches.length c3] #[.int .i64 b.letters, .int .i64 b.states, .slice A4 b.accept.length c4, .slice A5 b.leaves.length c5, .slice A6 b.branches.length c6] a b :=
    ⟨hb02, hB1.kept hk2 id, hB2, IsTA.keep ⟨A1, c1, A2, c2, A3, c3, rfl, h1, h2, h3⟩ (fun _ hp => hb02.cell hp) hb02.size, IsTA.keep ⟨A4, c4, A5, c5, A6, c6, rfl, h4, h5, h6⟩ (fun _ hp => hb02.cell hp) hb02.size⟩
  have hca := hX2.ba.cell
  have hcb := hX2.bb.cell
  have hH2 := hide hX2
  clear hX2 hb02 h1 h2 h3 h4 h5 h6 hB1 hB2 hb1 hb2 hk1 hk2
  go_enter Try.func12, Try.ntmps12
  go_wp2_with fail
  refine Calls.ret (small_any hH2.out.ta) ?_
  rintro v w4 ⟨rfl, hb4⟩
  have hX4 := hH2.out.step hb4
  have hca4 := hX4.ba.cell
  have hcb4 := hX4.bb.cell
  have hH4 := hide hX4
  clear hca hcb hX4 hb4
  cases hsa : a.small with
  | false =>
    go_wp2_with fail
    refine Calls.ret (known_any w4) ?_
    rintro v w5 ⟨rfl, hb5⟩
    have hfin := hide (hH4.out.step hb5).below
    clear hb5
    go_wp2_with fail
    go_ret
    exact ⟨rfl, hfin.out⟩
  | true =>
    have hSA := hide (small_branches hsa)
    clear hsa
    go_wp2_with fail
    refine Calls.ret (small_any hH4.out.tb) ?_
    rintro v w5 ⟨rfl, hb5⟩
    have hX5 := hH4.out.step hb5
    have hca5 := hX5.ba.cell
    have hcb5 := hX5.bb.cell
    have hH5 := hide hX5
    clear hca4 hcb4 hX5 hb5
    cases hsb : b.small with
    | false =>
      go_wp2_with fail
      refine Calls.ret (known_any w5) ?_
      rintro v w6 ⟨rfl, hb6⟩
      have hfin := hide (hH5.out.step hb6).below
      clear hb6
      go_wp2_with fail
      go_ret
      exact ⟨rfl, hfin.out⟩
    | true =>
      have hSB := hide (small_branches hsb)
      clear hsb
      go_wp2_with fail
      refine Calls.ret (included_any hH5.out.ta hH5.out.tb hSA.out hSB.out) ?_
      rintro v w7 ⟨hI1, hb7⟩
      obtain ⟨x, e1, rfl⟩ := hI1.shape
      have hX7 := hH5.out.step hb7
      have hca7 := hX7.ba.cell
      have hcb7 := hX7.bb.cell
      have hH7 := hide hX7
      have hHI1 := hide hI1
      clear hca5 hcb5 hX7 hb7 hI1
      go_wp2_with fail
      refine Calls.ret (refIncluded_any hH7.out.ta hH7.out.tb) ?_
      rintro v w8 ⟨hI2, hb8⟩
      obtain ⟨y, e2, rfl⟩ := hI2.shape
      obtain ⟨rfl, rfl⟩ := hHI1.out.unique hI2
      have hX8 := hH7.out.step hb8
      have hca8 := hX8.ba.cell
      have hcb8 := hX8.bb.cell
      have hH8 := hide hX8
      clear hca7 hcb7 hX8 hb8 hI2
      go_wp2_with fail
      refine Calls.ret (same_any hH8.out.ta hH8.out.tb hSA.out hSB.out) ?_
      rintro v w9 ⟨hI3, hb9⟩
      obtain ⟨s, e3, rfl⟩ := hI3.shape
      have hX9 := hH8.out.step hb9
      have hca9 := hX9.ba.cell
      have hcb9 := hX9.bb.cell
      have hH9 := hide hX9
      have hHI3 := hide hI3
      clear hca8 hcb8 hX9 hb9 hI3
      go_wp2_with fail
      refine Calls.ret (refSame_any hH9.out.ta hH9.out.tb) ?_
      rintro v w10 ⟨hI4, hb10⟩
      obtain ⟨z, e4, rfl⟩ := hI4.shape
      obtain ⟨rfl, rfl⟩ := hHI3.out.unique hI4
      have hX10 := hH9.out.step hb10
      have hH10 := hide hX10
      clear hca9 hcb9 hX10 hb10 hI4 hHI1 hHI3
      go_wp2_with fail
      refine Calls.ret (known_any w10) ?_
      rintro v w11 ⟨rfl, hb11⟩
      have hfin := hide (hH10.out.step hb11).below
      clear hb11
      go_wp2_with fail
      go_ret
      exact ⟨rfl, hfin.out⟩
end Go.Proofs.Ytnimlcbgeiajiaa
