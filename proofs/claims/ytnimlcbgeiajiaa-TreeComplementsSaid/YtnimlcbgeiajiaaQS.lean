/-
  The reference's accepts and Accepts: the walks.
  The reference's Accepts, long, and the law TreeAccepts: the walks.
  The law TreeComplements: the walk.
-/
import Derived.Test.YtnimlcbgeiajiaaQE
import Derived.Test.YtnimlcbgeiajiaaQR
import Derived.Test.YtnimlcbgeiajiaaQK

namespace Go.Proofs.Ytnimlcbgeiajiaa
open Go.RowKit

set_option maxHeartbeats 8000000 in
set_option maxRecDepth 100000 in
theorem refaccepts_any {v : Value} {a : TA} {w : World} {B1 B2 c1' c2' : Nat} {D1 D2 : Option Addr} {sh lb : List Int} (h : IsTA w w.heap.size v a) (hs : Sl w B1 1 encI D1 sh) (hl : Sl w B2 1 encI D2 lb) (hB1 : B1 ≤ w.heap.size) (hB2 : B2 ≤ w.heap.size)
    (hv : a.valid = true) (hvt : validT a.letters sh lb = true) :
    Calls Try.prog 56 #[v, .slice D1 sh.length c1', .slice D2 lb.length c2'] w (Ret fun r w' => r = .bool (a.lang (treeOf sh lb)) ∧ Below w.heap.size w w') := by
  obtain ⟨A1, c1, A2, c2, A3, c3, rfl, h1, h2, h3⟩ := h
  obtain ⟨w1, hw1, hb1, hB, hk1⟩ := box_blk w #[.int .i64 a.letters, .int .i64 a.states, .slice A1 a.accept.length c1, .slice A2 a.leaves.length c2, .slice A3 a.branches.length c3] 26
  have hsz := hb1.size
  have hT : IsTA w1 w1.heap.size (.agg #[.int .i64 a.letters, .int .i64 a.states, .slice A1 a.accept.length c1, .slice A2 a.leaves.length c2, .slice A3 a.branches.length c3]) a :=
    ⟨A1, c1, A2, c2, A3, c3, rfl, (h1.below hb1).mono hsz, (h2.below hb1).mono hsz, (h3.below hb1).mono hsz⟩
  have hHT := hide hT
  have hn1 := h1.1
  have hns := hs.1
  have hnl := hl.1
  clear hT
  have hV := hide hv
  clear hv
  obtain ⟨hst, hok, hlen, hn1', hn2'⟩ := validT_tree hvt
  have hgo : vtGo a.letters 1 sh lb = true := by
    simp only [validT, Bool.and_eq_true] at hvt
    exact hvt.2
  have hST := hide hst
  have hGO := hide hgo
  have hLEN := hide hlen
  clear hvt hst hgo hlen
  obtain ⟨hL1, hL8, hS0, hS64, hacc, -, -, -⟩ := TA.valid_parts hV.out
  have hACC := hide hacc
  clear hacc
  go_enter Try.func56, Try.ntmps56
  go_wp2_with fail
  go_loopw [7, 8] (fun kk ii wr => ∃ (i : Nat) (s : List Tr) (us : List Value), ii = .int .i64 ((i : Int) - 1) ∧ i ≤ sh.length ∧ Hid (stk (sh.drop i) (lb.drop i) = some s) ∧ Hid (KeptM wr w1.heap.size a kk us s) ∧ Hid (i + s.length ≤ sh.length + 1) ∧ Below w1.heap.size w1 wr) (fun _ ii _ => (intOf ii + 1).toNat)
  case atStart => exact ⟨sh.length, [], [], rfl, Nat.le_refl _, stk_nil_at (Nat.le_refl _), ⟨own_nil, fun i u t h => by simp at h⟩, Nat.le_succ _, Below.refl _ _⟩
  case round =>
    obtain ⟨i, s, us, rfl, hi, hs3, hown, hsl, hbr⟩ := hrel
    have hBr := hB.kept (Kept.of_below hbr (fun _ => False)) id
    have hcbr := hBr.cell
    have hszr := hbr.size
    obtain ⟨A, c, rfl⟩ := slice_of_own hown.out.own
    have hszd : wr.drew.heap.size = wr.heap.size := rfl
    have hownd := hide (hown.out.keep (Kept.refl wr (fun _ => False)).drew)
    by_cases hlt : 0 < i
    · obtain ⟨k, rfl⟩ : ∃ k, i = k + 1 := ⟨i - 1, by omega⟩
      rw [show (((k + 1 : Nat) : Int) - 1) = (k : Int) from by omega]
      obtain ⟨cd, l, s', hc, hl', hl0, hs', hcase⟩ := stk_at sh lb 1 (by omega) hGO.out k (by omega)
      have hss : s' = s := by
        have := hs3.out
        rw [hs'] at this
        exact Option.some.inj this
      subst hss
      obtain ⟨x, rfl⟩ := Int.eq_ofNat_of_zero_le hl0
      simp only [Int.toNat_natCast] at hcase
      obtain ⟨b1, o1, c', rfl, hb1', hc', hcc⟩ := hs.at (k := k) (by omega)
      obtain ⟨b2, o2, l', rfl, hb2', hl'', hlc⟩ := hl.at (k := k) (by rw [hLEN.out]; omega)
      rw [hc] at hc'
      rw [hl'] at hl''
      injection hc' with hc'
      injection hl'' with hl''
      subst hc' hl''
      have hc0 := (hbr.cell (by show b1 < _; omega)).trans ((hb1.cell (by show b1 < _; omega)).trans (hcc 0 (by omega)))
      have hl0' := (hbr.cell (by show b2 < _; omega)).trans ((hb1.cell (by show b2 < _; omega)).trans (hlc 0 (by omega)))
      simp only [Nat.mul_one, Nat.add_zero, encI] at hc0 hl0'
      have hTr : IsTA wr.drew wr.drew.heap.size (.agg #[.int .i64 a.letters, .int .i64 a.states, .slice A1 a.accept.length c1, .slice A2 a.leaves.length c2, .slice A3 a.branches.length c3]) a := hHT.out.keep (fun _ hp => hbr.drew.cell hp) hszr
      have hTR := hide hTr
      have hkl := hLEN.out
      have hKL := hide hkl
      have hklb : k < lb.length := by omega
      clear hc hl' hs' hcc hlc hl0 hTr hs3 hkl
      have hcount := hsl.out
      rcases hcase with ⟨rfl, hnext⟩ | ⟨rfl, t1, t2, r, rfl, hnext⟩
      · have hNX := hide hnext
        clear hnext
        go_wp2_with fail
        refine Reg.region_plain [0, 0, 0, 0, 12, 28, 62, 126, 255, 511] (by kernel_rfl) (by repeat (first | exact Reg.NoQ.body (fun _ _ h => h) (fun _ h => h) | refine Reg.NoQ.then ?_ | refine Reg.NoQ.inBlock ?_)) ?_
        go_wp2_with (first | (go_at_call 81; refine Calls.ret (refLeaf_any _ a _ x hTR.out hV.out) ?_; rintro v w3 ⟨hb3, hM⟩; have hM3 := hide hM; have hb33 := hide hb3; have hsz3 := hb3.size; have hbase3 : w1.heap.size ≤ w3.heap.size := by omega
                              have hK3 := hide (hownd.out.keep (Kept.of_below hb3 (fun _ => False))); obtain ⟨gv, -, rfl, -, -⟩ := hM; clear hb3) | (at_builtin; refine wpList_app_new row111 rfl _ _ rfl w1.heap.size (.slice A s'.length c) s'.length _ rfl hK3.out.own [.slice (some ⟨gv, 0, none⟩) a.states.toNat a.states.toNat] 1 rfl rfl (by simp [Value.oneCell']) (by omega) hbase3 ?_; intro g cap' w4 hown4 hk4 hmv4 hg4))
        refine ⟨⟨k, .leaf x :: s', us ++ [.slice (some ⟨gv, 0, none⟩) a.states.toNat a.states.toNat], by go_num, by omega, hNX.out, ?_, by show _ ≤ _; simp; omega, ?_⟩, by simp [intOf]⟩
        · exact hK3.out.push hM3.out hk4 hown4
        · refine (hbr.drew.trans (hb33.out.mono hszr)).trans (hk4.below hbase3 (fun b hb e => ?_))
          have := own_base hK3.out.own e
          omega
      · have hNX := hide hnext
        clear hnext
        simp only [List.length_cons] at *
        obtain ⟨u1, u2, hu1, hu2, hM1, hM2⟩ := hownd.out.top
        obtain ⟨g, cap, hv1, hcl1⟩ := own_get hown.out.own hu1
        obtain ⟨g', cap', hv2, hcl2⟩ := own_get hown.out.own hu2
        injection hv1 with hv1 hv1l hv1c
        injection hv2 with hv2 hv2l hv2c
        subst hv1 hv1c hv2c
        injection hv2 with hv2
        injection hv2 with hv2
        subst hv2
        clear hv1l hv2l
        have hcap := own_cap hown.out.own
        have hMM1 := hide hM1
        have hMM2 := hide hM2
        obtain ⟨gu1, -, rfl, -, -⟩ := hM1
        obtain ⟨gu2, -, rfl, -, -⟩ := hM2
        clear hu1 hu2
        go_wp2_with fail
        refine Reg.region_ints' [0, 0, 0, 6, 14, 0, 0, 64, 224, 480, 0, 0, 2048, 7168, 15360, 32767, 65535] (by kernel_rfl) (by repeat (first | exact Reg.NoQ.body (fun _ _ h => h) (fun _ h => h) | refine Reg.NoQ.then ?_ | refine Reg.NoQ.inBlock ?_)) ?_
        intro Qf hQf
        go_wp2_with (go_at_call 82; refine Calls.ret (refBranch_any _ _ _ a _ _ _ x _ _ hTR.out hV.out hMM1.out hMM2.out) ?_; rintro v w3 ⟨hb3, hM⟩; have hM3 := hide hM; have hb33 := hide hb3; have hsz3 := hb3.size; have hbase3 : w1.heap.size ≤ w3.heap.size := by omega
                     have hK3 := hide (hownd.out.keep (Kept.of_below hb3 (fun _ => False))); obtain ⟨gv, -, rfl, -, -⟩ := hM; clear hb3)
        refine ⟨rfl, ?_⟩
        have hK5 := hide hK3.out.pop2
        go_wp2_with (at_builtin; refine wpList_app_new row111 rfl _ _ rfl w1.heap.size (.slice (some ⟨g, 0, none⟩) r.length c) r.length _ rfl hK5.out.own [.slice (some ⟨gv, 0, none⟩) a.states.toNat a.states.toNat] 1 rfl rfl (by simp [Value.oneCell']) (by omega) hbase3 ?_; intro g2 cap' w4 hown4 hk4 hmv4 hg4)
        refine ⟨⟨k, .node x t1 t2 :: r, us.take r.length ++ [.slice (some ⟨gv, 0, none⟩) a.states.toNat a.states.toNat], by go_num, by omega, hNX.out, ?_, by show _ ≤ _; simp; omega, ?_⟩, by simp [intOf]⟩
        · exact hK5.out.push hM3.out hk4 hown4
        · refine (hbr.drew.trans (hb33.out.mono hszr)).trans (hk4.below hbase3 (fun b hb e => ?_))
          have := own_base hK5.out.own e
          omega
    · have hi0 : i = 0 := by omega
      subst hi0
      rw [show (((0 : Nat) : Int) - 1) = -1 from rfl]
      have hs4 : s = [treeOf sh lb] := by
        have := hs3.out
        rw [List.drop_zero, List.drop_zero, hST.out] at this
        exact (Option.some.inj this).symm
      subst hs4
      obtain ⟨u, hu⟩ := get_lt (l := us) (i := 0) (by rw [hown.out.len]; simp)
      have hMd := hide (hownd.out.row 0 u (treeOf sh lb) hu (by simp))
      obtain ⟨g, cap, hv1, hcl⟩ := own_get hown.out.own hu
      injection hv1 with hv1 _ hv1c
      subst hv1 hv1c
      obtain ⟨gu, -, rfl, -, -⟩ := hMd.out
      have hbW := hide (hb1.trans (hbr.drew.mono hsz))
      have hSa := hide ((h1.below hbW.out).mono (B' := wr.drew.heap.size) (by omega))
      have hS' : (a.states.toNat : Int) = a.states := by omega
      have hACC' := hACC.out
      rw [← hS'] at hACC'
      have hAC := hide hACC'
      clear hs3 hown hsl hownd hu hACC'
      go_wp2_with fail
      refine Reg.region_plain [0, 1, 3, 0, 8, 31, 63] (by kernel_rfl) (by repeat (first | exact Reg.NoQ.body (fun _ _ h => h) (fun _ h => h) | refine Reg.NoQ.then ?_ | refine Reg.NoQ.inBlock ?_)) ?_
      go_wp2_with (go_at_call 83; refine (refMeets_any hMd.out hSa.out hAC.out).mono ?_; rintro e w3 ⟨rfl, rfl⟩; rw [TA.lang_marks hV.out])
      go_ret
      exact ⟨rfl, hbW.out⟩
end Go.Proofs.Ytnimlcbgeiajiaa

namespace Go.Proofs.Ytnimlcbgeiajiaa
open Go.RowKit

set_option maxHeartbeats 8000000 in
set_option maxRecDepth 100000 in
theorem refAccepts_any {v : Value} {a : TA} {w : World} {B1 B2 c1' c2' : Nat} {D1 D2 : Option Addr} {sh lb : List Int} (h : IsTA w w.heap.size v a) (hs : Sl w B1 1 encI D1 sh) (hl : Sl w B2 1 encI D2 lb) (hB1 : B1 ≤ w.heap.size) (hB2 : B2 ≤ w.heap.size) :
    Calls Try.prog 29 #[v, .slice D1 sh.length c1', .slice D2 lb.length c2'] w (Ret fun r w' => r = accT a sh lb ∧ Below w.heap.size w w') := by
  obtain ⟨A1, c1, A2, c2, A3, c3, rfl, h1, h2, h3⟩ := h
  obtain ⟨w1, hw1, hb1, hB, hk1⟩ := box_blk w #[.int .i64 a.letters, .int .i64 a.states, .slice A1 a.accept.length c1, .slice A2 a.leaves.length c2, .slice A3 a.branches.length c3] 26
  have hsz := hb1.size
  have hT : IsTA w1 w1.heap.size (.agg #[.int .i64 a.letters, .int .i64 a.states, .slice A1 a.accept.length c1, .slice A2 a.leaves.length c2, .slice A3 a.branches.length c3]) a :=
    ⟨A1, c1, A2, c2, A3, c3, rfl, (h1.below hb1).mono hsz, (h2.below hb1).mono hsz, (h3.below hb1).mono hsz⟩
  have hHT := hide hT
  have hcb := hB.cell
  clear hT
  cases hv : a.valid
  · have hV := hide hv
    clear hv
    have he : Hid (accT a sh lb = .tuple #[.bool false, .int .i64 1]) := by show _ = _; simp [accT, hV.out]
    go_enter Try.func29, Try.ntmps29
    go_wp2_with (go_at_call 19; refine (refValidate_any _ _ _ hHT.out).mono ?_; rintro e w2 ⟨rfl, hb⟩; rw [hV.out]; simp only [errno]; have hb2 := hide hb; clear hb)
    go_ret2
    exact ⟨he.out.symm, hb1.trans (hb2.out.mono hsz)⟩
  · have hV := hide hv
    clear hv
    obtain ⟨hL1, hL8, -, -, -, -, -, -⟩ := TA.valid_parts hV.out
    cases hvt : validT a.letters sh lb
    · have hVT := hide hvt
      clear hvt
      have he : Hid (accT a sh lb = .tuple #[.bool false, .int .i64 1]) := by show _ = _; simp [accT, hVT.out]
      go_enter Try.func29, Try.ntmps29
      go_wp2_with (first | (go_at_call 19; refine (refValidate_any _ _ _ hHT.out).mono ?_; rintro e w2 ⟨rfl, hb⟩; rw [hV.out]; simp only [errno]; have hb2 := hide hb; have hcb2 := (hB.kept (Kept.of_below hb (fun _ => False)) id).cell; have hs2 := hide ((hs.mono hB1).below (hb1.trans (hb.mono hsz))); have hl2 := hide ((hl.mono hB2).below (hb1.trans (hb.mono hsz))); clear hb) | (go_at_call 55; refine (refValidTree_any hs2.out hl2.out ⟨hL1, hL8⟩).mono ?_; rintro e w3 ⟨rfl, rfl⟩; rw [hVT.out]))
      go_ret2
      exact ⟨he.out.symm, hb1.trans (hb2.out.mono hsz)⟩
    · have hVT := hide hvt
      clear hvt
      have he : Hid (accT a sh lb = .tuple #[.bool (a.lang (treeOf sh lb)), .int .i64 0]) := by show _ = _; simp [accT, hV.out, hVT.out]
      go_enter Try.func29, Try.ntmps29
      go_wp2_with (first | (go_at_call 19; refine (refValidate_any _ _ _ hHT.out).mono ?_; rintro e w2 ⟨rfl, hb⟩; rw [hV.out]; simp only [errno]; have hb2 := hide hb; have hsz2 := hb.size; have hT2 := hide (hHT.out.keep (fun _ hp => hb.cell hp) hsz2); have hcb2 := (hB.kept (Kept.of_below hb (fun _ => False)) id).cell; have hs2 := hide ((hs.mono hB1).below (hb1.trans (hb.mono hsz))); have hl2 := hide ((hl.mono hB2).below (hb1.trans (hb.mono hsz))); clear hb) | (go_at_call 55; refine (refValidTree_any hs2.out hl2.out ⟨hL1, hL8⟩).mono ?_; rintro e w3 ⟨rfl, rfl⟩; rw [hVT.out])
                         | (go_at_call 56; refine Calls.ret (refaccepts_any hT2.out hs2.out hl2.out (by omega) (by omega) hV.out hVT.out) ?_; rintro v w4 ⟨rfl, hb4⟩; have hb44 := hide hb4; clear hb4))
      go_ret2
      exact ⟨he.out.symm, (hb1.trans (hb2.out.mono hsz)).trans (hb44.out.mono (by omega))⟩

set_option maxHeartbeats 4000000 in
theorem long_any {w : World} {B1 B2 c1 c2 : Nat} {A1 A2 : Option Addr} {sh lb : List Int} (h1 : Sl w B1 1 encI A1 sh) (h2 : Sl w B2 1 encI A2 lb) :
    Calls Try.prog 27 #[.agg #[.slice A1 sh.length c1, .slice A2 lb.length c2]] w (Ret fun r w' => r = .bool (decide (60 < sh.length) || decide (60 < lb.length)) ∧ Below w.heap.size w w') := by
  have hn1 := h1.1
  have hn2 := h2.1
  clear h1 h2
  by_cases hs : 60 < sh.length
  · go_enter Try.func27, Try.ntmps27
    go_wp2_with fail
    go_ret
    exact ⟨by simp, (Below.refl _ _).alloc (Nat.le_refl _) _⟩
  · by_cases hl : 60 < lb.length
    · go_enter Try.func27, Try.ntmps27
      go_wp2_with fail
      go_ret
      exact ⟨by simp [hl]; omega, (Below.refl _ _).alloc (Nat.le_refl _) _⟩
    · go_enter Try.func27, Try.ntmps27
      go_wp2_with fail
      go_ret
      exact ⟨by simp [hl, hs]; omega, (Below.refl _ _).alloc (Nat.le_refl _) _⟩

set_option maxHeartbeats 8000000 in
set_option maxRecDepth 100000 in
theorem lawAccepts {v : Value} {a : TA} {w : World} {c1' c2' : Nat} {D1 D2 : Option Addr} {sh lb : List Int} (h : IsTA w w.heap.size v a) (hs : Sl w w.heap.size 1 encI D1 sh) (hl : Sl w w.heap.size 1 encI D2 lb) :
    Calls Try.prog 6 #[v, .agg #[.slice D1 sh.length c1', .slice D2 lb.length c2']] w (Ret fun v w' => v = .bool true ∧ Below w.heap.size w w') := by
  obtain ⟨A1, c1, A2, c2, A3, c3, rfl, h1, h2, h3⟩ := h
  obtain ⟨w1, hw1, hb1, hB1, hk1⟩ := box_blk w #[.int .i64 a.letters, .int .i64 a.states, .slice A1 a.accept.length c1, .slice A2 a.leaves.length c2, .slice A3 a.branches.length c3] 26
  obtain ⟨w2, hw2, hb2, hB2, hk2⟩ := box_blk w1 #[.slice D1 sh.length c1', .slice D2 lb.length c2'] 40
  have hsz1 := hb1.size
  have hsz2 := hb2.size
  have hb02 := hb1.trans (hb2.mono hsz1)
  have hB12 := hB1.kept hk2 id
  have hcb1 := hB12.cell
  have hcb2 := hB2.cell
  have hT : IsTA w2 w2.heap.size (.agg #[.int .i64 a.letters, .int .i64 a.states, .slice A1 a.accept.length c1, .slice A2 a.leaves.length c2, .slice A3 a.branches.length c3]) a :=
    IsTA.keep ⟨A1, c1, A2, c2, A3, c3, rfl, h1, h2, h3⟩ (fun _ hp => hb02.cell hp) (by omega)
  have hTT := hide hT
  have hs2 := hide ((hs.below hb02).mono (B' := w2.heap.size) (by omega))
  have hl2 := hide ((hl.below hb02).mono (B' := w2.heap.size) (by omega))
  have hns := hs.1
  have hnl := hl.1
  clear hT h1 h2 h3
  go_enter Try.func6, Try.ntmps6
  go_wp2_with fail
  refine (Big_any _ a w2 hTT.out).mono ?_
  rintro e w3 ⟨rfl, hb3⟩
  have hb03 : Below w.heap.size w w3 := hb02.trans (hb3.mono (by omega))
  have hcb3 := (hB12.kept (Kept.of_below hb3 (fun _ => False)) id).cell
  have hB23 := hB2.kept (Kept.of_below hb3 (fun _ => False)) id
  have hdb3 := hB23.cell
  have hsz3 := hb3.size
  cases hbig : a.big with
  | true =>
    go_wp2_with fail
    refine Calls.ret (known_any w3) ?_
    rintro v w4 ⟨rfl, hb4⟩
    have hb04 := hide (hb03.trans (hb4.mono (by omega)))
    clear hb4
    go_wp2_with fail
    go_ret
    exact ⟨rfl, hb04.out⟩
  | false =>
    have hs3 := hide ((hs2.out.below hb3).mono hsz3)
    have hl3 := hide ((hl2.out.below hb3).mono hsz3)
    have hT3 := hide (hTT.out.keep (fun _ hp => hb3.cell hp) hsz3)
    go_wp2_with fail
    refine Calls.ret (long_any hs3.out hl3.out) ?_
    rintro v w4 ⟨rfl, hb4⟩
    have hb04 : Below w.heap.size w w4 := hb03.trans (hb4.mono (by omega))
    have hsz4 := hb4.size
    have hcb4 := ((hB12.kept (Kept.of_below hb3 (fun _ => False)) id).kept (Kept.of_below hb4 (fun _ => False)) id).cell
    have hB24 := hB23.kept (Kept.of_below hb4 (fun _ => False)) id
    have hdb4 := hB24.cell
    cases hlong : (decide (60 < sh.length) || decide (60 < lb.length)) with
    | true =>
      go_wp2_with fail
      refine Calls.ret (known_any w4) ?_
      rintro v w5 ⟨rfl, hb5⟩
      have hb05 := hide (hb04.trans (hb5.mono (by omega)))
      clear hb5
      go_wp2_with fail
      go_ret
      exact ⟨rfl, hb05.out⟩
    | false =>
      have hs4 := hide ((hs3.out.below hb4).mono hsz4)
      have hl4 := hide ((hl3.out.below hb4).mono hsz4)
      have hT4 := hide (hT3.out.keep (fun _ hp => hb4.cell hp) hsz4)
      clear hlong
      go_wp2_with fail
      refine Calls.ret (accepts_any hT4.out hs4.out hl4.out (Nat.le_refl _) (Nat.le_refl _)) ?_
      rintro v w5 ⟨rfl, hb5⟩
      have hb05 : Below w.heap.size w w5 := hb04.trans (hb5.mono (by omega))
      have hsz5 := hb5.size
      have hcb5 := (((hB12.kept (Kept.of_below hb3 (fun _ => False)) id).kept (Kept.of_below hb4 (fun _ => False)) id).kept (Kept.of_below hb5 (fun _ => False)) id).cell
      have hB25 := hB24.kept (Kept.of_below hb5 (fun _ => False)) id
      have hdb5 := hB25.cell
      have hs5 := hide ((hs4.out.below hb5).mono hsz5)
      have hl5 := hide ((hl4.out.below hb5).mono hsz5)
      have hT5 := hide (hT4.out.keep (fun _ hp => hb5.cell hp) hsz5)
      obtain ⟨x, y, hxy⟩ : ∃ x y, accT a sh lb = .tuple #[.bool x, .int .i64 y] := by
        unfold accT
        split
        · exact ⟨_, _, rfl⟩
        · exact ⟨_, _, rfl⟩
      rw [hxy]
      have HXY := hide hxy
      clear hxy
      go_wp2_with fail
      refine Calls.ret (refAccepts_any hT5.out hs5.out hl5.out (Nat.le_refl _) (Nat.le_refl _)) ?_
      rintro v w6 ⟨rfl, hb6⟩
      have hb06 : Below w.heap.size w w6 := hb05.trans (hb6.mono (by omega))
      have hsz6 := hb6.size
      rw [HXY.out]
      have heq1 : (x == x) = true := by simp
      have heq2 : (y == y) = true := by simp
      go_wp2_with fail
      refine Calls.ret (known_any w6) ?_
      rintro v w7 ⟨rfl, hb7⟩
      have hb07 := hide (hb06.trans (hb7.mono (by omega)))
      clear hb7
      go_wp2_with fail
      go_ret
      exact ⟨rfl, hb07.out⟩
end Go.Proofs.Ytnimlcbgeiajiaa

namespace Go.Proofs.Ytnimlcbgeiajiaa
open Go.RowKit

/-- What a law on an automaton and a tree holds. -/
structure LawE (w : World) (g1 g2 : Nat) (A1 A2 A3 D1 D2 : Option Addr) (c1 c2 c3 c1' c2' : Nat) (a : TA) (sh lb : List Int) : Prop where
  ta : IsTA w w.heap.size (.agg #[.int .i64 a.letters, .int .i64 a.states, .slice A1 a.accept.length c1, .slice A2 a.leaves.length c2, .slice A3 a.branches.length c3]) a
  s1 : Sl w w.heap.size 1 encI D1 sh
  s2 : Sl w w.heap.size 1 encI D2 lb
  ba : Blk w g1 26 #[.int .i64 a.letters, .int .i64 a.states, .slice A1 a.accept.length c1, .slice A2 a.leaves.length c2, .slice A3 a.branches.length c3]
  bt : Blk w g2 40 #[.slice D1 sh.length c1', .slice D2 lb.length c2']
theorem LawE.at {w w' : World} {g1 g2 : Nat} {A1 A2 A3 D1 D2 : Option Addr} {c1 c2 c3 c1' c2' : Nat} {a : TA} {sh lb : List Int} (h : LawE w g1 g2 A1 A2 A3 D1 D2 c1 c2 c3 c1' c2' a sh lb) (hb : Below w.heap.size w w') : LawE w' g1 g2 A1 A2 A3 D1 D2 c1 c2 c3 c1' c2' a sh lb :=
  ⟨h.ta.keep (fun _ hp => hb.cell hp) hb.size, (h.s1.below hb).mono hb.size, (h.s2.below hb).mono hb.size, h.ba.below hb, h.bt.below hb⟩
theorem accT_form (a : TA) (sh lb : List Int) : (∃ x, accT a sh lb = .tuple #[.bool x, .int .i64 0] ∧ a.valid = true ∧ validT a.letters sh lb = true ∧ x = a.lang (treeOf sh lb)) ∨ accT a sh lb = .tuple #[.bool false, .int .i64 1] := by
  unfold accT
  split
  · rename_i h
    rw [Bool.and_eq_true] at h
    exact .inl ⟨_, rfl, h.1, h.2, rfl⟩
  · exact .inr rfl
theorem compl_acc {a b : TA} {sh lb : List Int} (h : RelG a (fun t => !a.lang t) 0 b) (hv : validT a.letters sh lb = true) : accT b sh lb = .tuple #[.bool (!a.lang (treeOf sh lb)), .int .i64 0] := by
  rcases h with ⟨-, h, -⟩ | ⟨-, -, h, -⟩ | ⟨h1, -, -, ac, lf, t, h3, h4, h5, rfl⟩
  · cases h
  · cases h
  · obtain ⟨g1, g8, -, -, -, -, -, -⟩ := TA.valid_parts h1
    have hpv := plain_valid h3 (by omega) (by omega) h4
    have hl : (plainA a.letters.toNat ac lf t).letters = a.letters := by simp [plainA]; omega
    have hok := (validT_tree hv).2.1
    unfold accT
    rw [hpv, hl, hv, plain_lang h3 _ hok, h5.lang _ hok]
    rfl

set_option maxHeartbeats 8000000 in
set_option maxRecDepth 100000 in
theorem lawComplements {v : Value} {a : TA} {w : World} {c1' c2' : Nat} {D1 D2 : Option Addr} {sh lb : List Int} (h : IsTA w w.heap.size v a) (hs : Sl w w.heap.size 1 encI D1 sh) (hl : Sl w w.heap.size 1 encI D2 lb) :
    Calls Try.prog 9 #[v, .agg #[.slice D1 sh.length c1', .slice D2 lb.length c2']] w (Ret fun v w' => v = .bool true ∧ Below w.heap.size w w') := by
  obtain ⟨A1, c1, A2, c2, A3, c3, rfl, h1, h2, h3⟩ := h
  obtain ⟨w1, hw1, hb1, hB1, hk1⟩ := box_blk w #[.int .i64 a.letters, .int .i64 a.states, .slice A1 a.accept.length c1, .slice A2 a.leaves.length c2, .slice A3 a.branches.length c3] 26
  obtain ⟨w2, hw2, hb2, hB2, hk2⟩ := box_blk w1 #[.slice D1 sh.length c1', .slice D2 lb.length c2'] 40
  have hsz1 := hb1.size
  have hb02 := hb1.trans (hb2.mono hsz1)
  have hE2 : LawE w2 w.heap.size w1.heap.size A1 A2 A3 D1 D2 c1 c2 c3 c1' c2' a sh lb :=
    ⟨IsTA.keep (B := w.heap.size) ⟨A1, c1, A2, c2, A3, c3, rfl, h1, h2, h3⟩ (fun _ hp => hb02.cell hp) hb02.size, (hs.below hb02).mono hb02.size, (hl.below hb02).mono hb02.size, hB1.kept hk2 id, hB2⟩
  have hEE := hide hE2
  have hca := hE2.ba.cell
  have hct := hE2.bt.cell
  have hns := hs.1
  have hnl := hl.1
  have hs02 := hb02.size
  clear h1 h2 h3 hE2 hs hl
  go_enter Try.func9, Try.ntmps9
  go_wp2_with fail
  refine Calls.ret (small_any hEE.out.ta) ?_
  rintro v w3 ⟨rfl, hb3⟩
  have hb03 : Below w.heap.size w w3 := hb02.trans (hb3.mono hs02)
  have hE3 := hide (hEE.out.at hb3)
  have hca3 := hE3.out.ba.cell
  have hct3 := hE3.out.bt.cell
  have hs03 := hb03.size
  clear hca hct
  cases hsm : a.small with
  | false =>
    go_wp2_with fail
    refine Calls.ret (known_any w3) ?_
    rintro v w4 ⟨rfl, hb4⟩
    have hb04 := hide (hb03.trans (hb4.mono hs03))
    clear hb4
    go_wp2_with fail
    go_ret
    exact ⟨rfl, hb04.out⟩
  | true =>
    have hbr : a.branches.length ≤ 900000 := by
      have : a.big = false := by
        cases hb : a.big
        · rfl
        · simp [TA.small, hb] at hsm
      simp [TA.big] at this
      omega
    have hBR := hide hbr
    clear hbr hsm
    go_wp2_with fail
    refine Calls.ret (long_any hE3.out.s1 hE3.out.s2) ?_
    rintro v w4 ⟨rfl, hb4⟩
    have hb04 : Below w.heap.size w w4 := hb03.trans (hb4.mono hs03)
    have hE4 := hide (hE3.out.at hb4)
    have hca4 := hE4.out.ba.cell
    have hct4 := hE4.out.bt.cell
    have hs04 := hb04.size
    clear hca3 hct3
    cases hlong : (decide (60 < sh.length) || decide (60 < lb.length)) with
    | true =>
      go_wp2_with fail
      refine Calls.ret (known_any w4) ?_
      rintro v w5 ⟨rfl, hb5⟩
      have hb05 := hide (hb04.trans (hb5.mono hs04))
      clear hb5
      go_wp2_with fail
      go_ret
      exact ⟨rfl, hb05.out⟩
    | false =>
      clear hlong
      go_wp2_with fail
      refine Calls.ret (complement_any _ a w4 hE4.out.ta hBR.out) ?_
      rintro v5 w5 ⟨hb5, e, b, vm, rfl, hrel, hTA5⟩
      obtain ⟨C1, f1, C2, f2, C3, f3, xs, rfl, q1, q2, q3, -, -⟩ := hTA5
      have hTm5 := hide (show IsTA w5 w5.heap.size (.agg #[.int .i64 b.letters, .int .i64 b.states, .slice C1 b.accept.length f1, .slice C2 b.leaves.length f2, .slice C3 b.branches.length f3]) b from ⟨C1, f1, C2, f2, C3, f3, rfl, q1, q2, q3⟩)
      obtain ⟨w6, hw6, hb6, hB6, hk6⟩ := box_blk w5 #[.int .i64 b.letters, .int .i64 b.states, .slice C1 b.accept.length f1, .slice C2 b.leaves.length f2, .slice C3 b.branches.length f3] 26
      have hb46 : Below w4.heap.size w4 w6 := hb5.trans (hb6.mono hb5.size)
      have hE6 := hide (hE4.out.at hb46)
      have hca6 := hE6.out.ba.cell
      have hs46 := hb46.size
      have hs6 := hb6.size
      have hrelH := hide hrel
      clear q1 q2 q3 hb5 hrel hca4 hct4
      go_wp2_with fail
      refine Calls.ret (refComplement_any _ a w6 hE6.out.ta) ?_
      rintro v7 w7 ⟨hb7, e', b', vn, rfl, hrel', hTA7⟩
      obtain ⟨rfl, rfl⟩ := hrelH.out.unique hrel'
      obtain ⟨G1, k1, G2, k2, G3, k3, xs', rfl, q1, q2, q3, -, -⟩ := hTA7
      have hTn7 := hide (show IsTA w7 w7.heap.size (.agg #[.int .i64 b.letters, .int .i64 b.states, .slice G1 b.accept.length k1, .slice G2 b.leaves.length k2, .slice G3 b.branches.length k3]) b from ⟨G1, k1, G2, k2, G3, k3, rfl, q1, q2, q3⟩)
      obtain ⟨w8, hw8, hb8, hB8, hk8⟩ := box_blk w7 #[.int .i64 b.letters, .int .i64 b.states, .slice G1 b.accept.length k1, .slice G2 b.leaves.length k2, .slice G3 b.branches.length k3] 26
      have hb68 : Below w6.heap.size w6 w8 := hb7.trans (hb8.mono hb7.size)
      have hb58 : Below w5.heap.size w5 w8 := hb6.trans (hb68.mono hs6)
      have hTm8 := hide (hTm5.out.keep (fun _ hp => hb58.cell hp) hb58.size)
      have hTn8 := hide (hTn7.out.keep (fun _ hp => hb8.cell hp) hb8.size)
      have hB68 := hB6.below hb68
      have hc68 := hB68.cell
      have hc88 := hB8.cell
      have hne : (e != e) = false := by simp
      have hE8 := hide (hE6.out.at hb68)
      have hs68 := hb68.size
      clear hrel' q1 q2 q3 hb7 hca6
      go_wp2_with (go_at_call 23; refine Calls.ret (sameAutomaton_any hTm8.out hTn8.out) ?_; rintro r9 w9 ⟨rfl, hb9⟩; have hE9 := hide (hE8.out.at hb9); have hca9 := hE9.out.ba.cell; have hct9 := hE9.out.bt.cell; have hb9H := hide hb9; have hcm9 := (hB68.below hb9).cell; have hTm9 := hide (hTm8.out.keep (fun _ hp => hb9.cell hp) hb9.size); clear hb9 hc68 hc88)
      refine Calls.ret (accepts_any hE9.out.ta hE9.out.s1 hE9.out.s2 (Nat.le_refl _) (Nat.le_refl _)) ?_
      rintro v10 w10 ⟨rfl, hb10⟩
      have hb69 : Below w6.heap.size w6 w9 := hb68.trans (hb9H.out.mono hs68)
      have hb49 : Below w4.heap.size w4 w9 := hb46.trans (hb69.mono hs46)
      have hb4a : Below w4.heap.size w4 w10 := hb49.trans (hb10.mono hb49.size)
      have hb0a : Below w.heap.size w w10 := hb04.trans (hb4a.mono hs04)
      have hsa := hb0a.size
      have hEa := hide (hE9.out.at hb10)
      have hcta := hEa.out.bt.cell
      have hcma := ((hB68.below hb9H.out).below hb10).cell
      have hTma := hide (hTm9.out.keep (fun _ hp => hb10.cell hp) hb10.size)
      have hb0aH := hide hb0a
      clear hb69 hb49 hb4a hb0a hb10 hca9 hct9 hcm9
      rcases accT_form a sh lb with ⟨x, hx, -, hvt, hxl⟩ | hx
      · rw [hx]
        have hxH := hide hx
        have hvH := hide hvt
        have hlH := hide hxl
        clear hx hvt hxl
        by_cases he : e = 0
        · subst he
          have hacc := hide (compl_acc hrelH.out hvH.out)
          go_wp2_with fail
          refine Calls.ret (accepts_any hTma.out hEa.out.s1 hEa.out.s2 (Nat.le_refl _) (Nat.le_refl _)) ?_
          rintro v11 w11 ⟨rfl, hb11⟩
          rw [hacc.out, ← hlH.out]
          have hb0b := hide (hb0aH.out.trans (hb11.mono hsa))
          have hsb := hb0b.out.size
          clear hb11 hcta hcma
          have hxx : (x != !x) = true := by cases x <;> rfl
          go_wp2_with (go_at_call 17; refine Calls.ret (known_any w11) ?_; rintro v12 w12 ⟨rfl, hb12⟩; have hb12H := hide hb12; clear hb12)
          go_ret
          exact ⟨rfl, hb0b.out.trans (hb12H.out.mono hsb)⟩
        · have hne0 : (e != 0) = true := by simp [he]
          clear he
          go_wp2_with (go_at_call 17; refine Calls.ret (known_any w10) ?_; rintro v12 w12 ⟨rfl, hb12⟩; have hb12H := hide hb12; clear hb12)
          go_ret
          exact ⟨rfl, hb0aH.out.trans (hb12H.out.mono hsa)⟩
      · rw [hx]
        clear hx
        by_cases he : e = 0
        · subst he
          go_wp2_with (go_at_call 17; refine Calls.ret (known_any w10) ?_; rintro v12 w12 ⟨rfl, hb12⟩; have hb12H := hide hb12; clear hb12)
          go_ret
          exact ⟨rfl, hb0aH.out.trans (hb12H.out.mono hsa)⟩
        · have hne0 : (e != 0) = true := by simp [he]
          clear he
          go_wp2_with (go_at_call 17; refine Calls.ret (known_any w10) ?_; rintro v12 w12 ⟨rfl, hb12⟩; have hb12H := hide hb12; clear hb12)
          go_ret
          exact ⟨rfl, hb0aH.out.trans (hb12H.out.mono hsa)⟩
end Go.Proofs.Ytnimlcbgeiajiaa
