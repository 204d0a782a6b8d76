/-
  tree.Accepts: the walk.
  The canonical automaton as an automaton: it is valid, has the same language, is not large, and is its own canonical automaton. Plain Lean, and its memory.
  tree.joined: the walk.
  tree.Union, tree.Intersect: the walks.
-/
import Derived.Test.YtnimlcbgeiajiaaTjP4
import Derived.Test.YtnimlcbgeiajiaaTiP5

namespace Go.Proofs.Ytnimlcbgeiajiaa
open Go.RowKit

def accT (a : TA) (sh lb : List Int) : Value := if a.valid && validT a.letters sh lb then .tuple #[.bool (a.lang (treeOf sh lb)), .int .i64 0] else .tuple #[.bool false, .int .i64 1]

theorem stk_nil_at {sh lb : List Int} {i : Nat} (h : sh.length ≤ i) : stk (sh.drop i) (lb.drop i) = some [] := by
  rw [List.drop_eq_nil_of_le h]
  simp [stk]
theorem masks_get {a : TA} {t1 t2 : Tr} {r : List Tr} : (masks a (t1 :: t2 :: r))[r.length]? = some (.int .u64 (a.mask t2 : Int)) ∧ (masks a (t1 :: t2 :: r))[r.length + 1]? = some (.int .u64 (a.mask t1 : Int)) := by
  rw [masks_two]
  constructor
  · rw [List.getElem?_append_right (by rw [masks_len]; omega), masks_len, Nat.sub_self]; rfl
  · rw [List.getElem?_append_right (by rw [masks_len]; omega), masks_len, Nat.add_sub_cancel_left]; rfl
theorem masks_take {a : TA} {t1 t2 : Tr} {r : List Tr} : (masks a (t1 :: t2 :: r)).take (r.length * 1) = masks a r := by
  rw [masks_two, Nat.mul_one, List.take_append_of_le_length (by rw [masks_len]; omega), List.take_of_length_le (by rw [masks_len]; omega)]
theorem TA.valid_parts {a : TA} (h : a.valid = true) : 1 ≤ a.letters ∧ a.letters ≤ 8 ∧ 0 ≤ a.states ∧ a.states ≤ 64 ∧ a.accept.all (inR · 0 a.states) = true ∧ (∀ q ∈ a.accept, 0 ≤ q ∧ q < 64) ∧ (∀ e ∈ a.leaves, e.to < 64) ∧ (∀ e ∈ a.branches, e.to < 64) := by
  simp only [TA.valid, TA.head, Bool.and_eq_true, decide_eq_true_eq] at h
  obtain ⟨⟨⟨⟨⟨⟨h1, h2⟩, h3⟩, h4⟩, h5⟩, h6⟩, h7⟩ := h
  refine ⟨h1, h2, h3, h4, h5, fun q hq => ?_, fun e he => ?_, fun e he => ?_⟩
  · have := List.all_eq_true.1 h5 q hq
    simp only [inR, Bool.and_eq_true, decide_eq_true_eq] at this
    omega
  · have := List.all_eq_true.1 h6 e he
    simp only [okLeaf, inR, Bool.and_eq_true, decide_eq_true_eq] at this
    omega
  · have := List.all_eq_true.1 h7 e he
    simp only [okBranch, inR, Bool.and_eq_true, decide_eq_true_eq] at this
    omega
theorem TA.mask_u64 {a : TA} (h : a.valid = true) (t : Tr) : U64 (a.mask t) := by
  obtain ⟨-, -, -, -, -, -, h1, h2⟩ := TA.valid_parts h
  cases t with
  | leaf x => exact U64.leafM h1
  | node x s t => exact U64.brM fun e he => h2 e (List.mem_filter.1 he).1

theorem own_cap {w : World} {base size n c : Nat} {e : TypeId} {g : Addr} {xs : List Value} (h : w.ownsRow base e size (.slice (some g) n c) n xs) : n ≤ c := by
  rcases h.2 with ⟨h1, _⟩ | ⟨g', cap', cur, hv, _, _, hc, _⟩
  · cases h1
  · injection hv with _ _ hv
    omega
set_option maxHeartbeats 8000000 in
set_option maxRecDepth 100000 in
theorem accepts_any {v : Value} {a : TA} {w : World} {B1 B2 c1' c2' : Nat} {D1 D2 : Option Addr} {sh lb : List Int} (h : IsTA w w.heap.size v a) (hs : Sl w B1 1 encI D1 sh) (hl : Sl w B2 1 encI D2 lb) (hB1 : B1 ≤ w.heap.size) (hB2 : B2 ≤ w.heap.size) :
    Calls Try.prog 28 #[v, .slice D1 sh.length c1', .slice D2 lb.length c2'] w (Ret fun r w' => r = accT a sh lb ∧ Below w.heap.size w w') := by
  have hIn := h
  obtain ⟨A1, c1, A2, c2, A3, c3, rfl, h1, h2, h3⟩ := h
  obtain ⟨w1, hw1, hb1, hB, hk1⟩ := box_blk w #[.int .i64 a.letters, .int .i64 a.states, .slice A1 a.accept.length c1, .slice A2 a.leaves.length c2, .slice A3 a.branches.length c3] 26
  have hcb := hB.cell
  have hsz := hb1.size
  have hT : IsTA w1 w1.heap.size (.agg #[.int .i64 a.letters, .int .i64 a.states, .slice A1 a.accept.length c1, .slice A2 a.leaves.length c2, .slice A3 a.branches.length c3]) a :=
    ⟨A1, c1, A2, c2, A3, c3, rfl, (h1.below hb1).mono hsz, (h2.below hb1).mono hsz, (h3.below hb1).mono hsz⟩
  have hHB := hide hB
  have hHT := hide hT
  have hn1 := h1.1
  have hns := hs.1
  have hnl := hl.1
  clear hT
  cases hv : a.valid
  · have hV := hide hv
    clear hv
    have he : Hid (accT a sh lb = .tuple #[.bool false, .int .i64 1]) := by show _ = _; simp [accT, hV.out]
    go_enter Try.func28, Try.ntmps28
    go_wp2_with (go_at_call 18; refine (validate_any _ _ _ hHT.out).mono ?_; rintro e w' ⟨rfl, hb⟩; rw [hV.out]; simp only [errno]; have hb2 := hide hb; clear hb)
    go_ret2
    exact ⟨he.out.symm, hb1.trans (hb2.out.mono hsz)⟩
  · have hV := hide hv
    clear hv
    cases hvt : validT a.letters sh lb
    · have hVT := hide hvt
      clear hvt
      have he : Hid (accT a sh lb = .tuple #[.bool false, .int .i64 1]) := by show _ = _; simp [accT, hVT.out]
      go_enter Try.func28, Try.ntmps28
      go_wp2_with (first | (go_at_call 18; refine (validate_any _ _ _ hHT.out).mono ?_; rintro e w2 ⟨rfl, hb⟩; rw [hV.out]; simp only [errno]; have hb2 := hide hb; have hcb2 := (hB.kept (Kept.of_below hb (fun _ => False)) id).cell; have hs2 := hide ((hs.mono hB1).below (hb1.trans (hb.mono hsz))); have hl2 := hide ((hl.mono hB2).below (hb1.trans (hb.mono hsz))); clear hb) | (go_at_call 42; refine (validTree_any hs2.out hl2.out).mono ?_; rintro e w3 ⟨rfl, rfl⟩; rw [hVT.out]))
      go_ret2
      exact ⟨he.out.symm, hb1.trans (hb2.out.mono hsz)⟩
    · obtain ⟨hst, hok, hlen, hn1', hn2'⟩ := validT_tree hvt
      have hgo : vtGo a.letters 1 sh lb = true := by
        simp only [validT, Bool.and_eq_true] at hvt
        exact hvt.2
      have hVT := hide hvt
      have hST := hide hst
      have hGO := hide hgo
      have hLEN := hide hlen
      clear hvt hst hgo hlen
      obtain ⟨hL1, hL8, hS0, hS64, -, hacc, -, -⟩ := TA.valid_parts hV.out
      have hACC := hide hacc
      clear hacc
      go_enter Try.func28, Try.ntmps28
      go_wp2_with (first | (go_at_call 18; refine (validate_any _ _ _ hHT.out).mono ?_; rintro e w2 ⟨rfl, hb⟩; rw [hV.out]; simp only [errno]; have hb2 := hide hb; have hcb2 := (hB.kept (Kept.of_below hb (fun _ => False)) id).cell; have hs2 := hide ((hs.mono hB1).below (hb1.trans (hb.mono hsz))); have hl2 := hide ((hl.mono hB2).below (hb1.trans (hb.mono hsz))); clear hb) | (go_at_call 42; refine (validTree_any hs2.out hl2.out).mono ?_; rintro e w3 ⟨rfl, rfl⟩; rw [hVT.out]))
      have hW2 := hb2.out
      clear hs2 hl2 hcb2 hcb
      go_loopw [9, 10] (fun kk ii wr => ∃ (i : Nat) (s : List Tr), ii = .int .i64 ((i : Int) - 1) ∧ i ≤ sh.length ∧ Hid (stk (sh.drop i) (lb.drop i) = some s) ∧ Hid (wr.ownsRow w1.heap.size 70 1 kk s.length (masks a s)) ∧ Hid (i + s.length ≤ sh.length + 1) ∧ Below w1.heap.size w1 wr) (fun _ ii _ => (intOf ii + 1).toNat)
      case atStart => exact ⟨sh.length, [], rfl, Nat.le_refl _, stk_nil_at (Nat.le_refl _), own_nil, Nat.le_succ _, hW2⟩
      case round =>
        obtain ⟨i, s, rfl, hi, hs3, hown, hsl, hbr⟩ := hrel
        have hBr := hB.kept (Kept.of_below hbr (fun _ => False)) id
        have hcbr := hBr.cell
        have hszr := hbr.size
        obtain ⟨A, c, rfl⟩ := slice_of_own hown.out
        by_cases hlt : 0 < i
        · obtain ⟨k, rfl⟩ : ∃ k, i = k + 1 := ⟨i - 1, by omega⟩
          rw [show (((k + 1 : Nat) : Int) - 1) = (k : Int) from by omega]
          obtain ⟨cd, l, s', hc, hl', hl0, hs', hcase⟩ := stk_at sh lb 1 (by omega) hGO.out k (by omega)
          have hss : s' = s := by
            have := hs3.out
            rw [hs'] at this
            exact Option.some.inj this
          subst hss
          obtain ⟨x, rfl⟩ := Int.eq_ofNat_of_zero_le hl0
          simp only [Int.toNat_natCast] at hcase
          obtain ⟨b1, o1, c', rfl, hb1', hc', hcc⟩ := hs.at (k := k) (by omega)
          obtain ⟨b2, o2, l', rfl, hb2', hl'', hlc⟩ := hl.at (k := k) (by rw [hLEN.out]; omega)
          rw [hc] at hc'
          rw [hl'] at hl''
          injection hc' with hc'
          injection hl'' with hl''
          subst hc' hl''
          have hc0 := (hbr.cell (by show b1 < _; omega)).trans ((hb1.cell (by show b1 < _; omega)).trans (hcc 0 (by omega)))
          have hl0' := (hbr.cell (by show b2 < _; omega)).trans ((hb1.cell (by show b2 < _; omega)).trans (hlc 0 (by omega)))
          simp only [Nat.mul_one, Nat.add_zero, encI] at hc0 hl0'
          have hTr : IsTA wr.drew wr.drew.heap.size (.agg #[.int .i64 a.letters, .int .i64 a.states, .slice A1 a.accept.length c1, .slice A2 a.leaves.length c2, .slice A3 a.branches.length c3]) a := hHT.out.keep (fun _ hp => hbr.drew.cell hp) hszr
          have hTR := hide hTr
          have hownd := hide ((Kept.refl wr (fun _ => False)).drew.ownsRow hown.out (fun _ _ => id))
          have hszd : wr.drew.heap.size = wr.heap.size := rfl
          have hkl := hLEN.out
          have hKL := hide hkl
          have hklb : k < lb.length := by omega
          clear hc hl' hs' hcc hlc hl0 hTr hs3 hkl
          have hcount := hsl.out
          rcases hcase with ⟨rfl, hnext⟩ | ⟨rfl, t1, t2, r, rfl, hnext⟩
          · have hNX := hide hnext
            clear hnext
            go_wp2_with fail
            refine Reg.region_plain [0, 0, 0, 6, 14, 31, 63] (by kernel_rfl) (by repeat (first | exact Reg.NoQ.body (fun _ _ h => h) (fun _ h => h) | refine Reg.NoQ.then ?_ | refine Reg.NoQ.inBlock ?_)) ?_
            go_wp2_with (first | (go_at_call 53; refine Calls.ret (leafSet_any _ a _ x hTR.out hV.out) ?_; rintro v w3 ⟨rfl, hU, hb3⟩; have hU3 := hide hU; have hb33 := hide hb3; have hsz3 := hb3.size; have hbase3 : w1.heap.size ≤ w3.heap.size := by omega
                                  have hown3 := (Kept.of_below hb3 (fun _ => False)).ownsRow hownd.out (fun _ _ => id); clear hU hb3) | (at_builtin; refine wpList_app_new row69 rfl _ _ rfl w1.heap.size (.slice A s'.length c) s'.length _ rfl hown3 [.int .u64 (a.leafS x : Int)] 1 rfl rfl (by simp [Value.oneCell']) (by omega) hbase3 ?_; intro g cap' w4 hown4 hk4 hmv4 hg4))
            refine ⟨⟨k, .leaf x :: s', by go_num, by omega, hNX.out, ?_, by show _ ≤ _; simp; omega, ?_⟩, by simp [intOf]⟩
            · show World.ownsRow _ _ _ _ _ _ _
              rw [masks_cons]
              exact hown4
            · refine (hbr.drew.trans (hb33.out.mono hszr)).trans (hk4.below hbase3 (fun b hb e => ?_))
              have := own_base hown3 e
              omega
          · have hNX := hide hnext
            clear hnext
            simp only [List.length_cons] at *
            have hg1 := hide (own_get hown.out (masks_get (a := a) (t1 := t1) (t2 := t2) (r := r)).1)
            have hg2 := hide (own_get hown.out (masks_get (a := a) (t1 := t1) (t2 := t2) (r := r)).2)
            obtain ⟨g, cap, hv1, hcl1⟩ := hg1.out
            obtain ⟨g', cap', hv2, hcl2⟩ := hg2.out
            injection hv1 with hv1 _ hv1c
            injection hv2 with hv2 _ hv2c
            subst hv1 hv1c hv2c
            injection hv2 with hv2
            injection hv2 with hv2
            subst hv2
            have hcap := own_cap hown.out
            clear hg1 hg2
            have hU1 := TA.mask_u64 hV.out t1
            have hU2 := TA.mask_u64 hV.out t2
            go_wp2_with fail
            refine Reg.region_ints' [0, 0, 0, 6, 14, 0, 0, 64, 224, 480, 0, 0, 2048, 7168, 15360, 32767, 65535] (by kernel_rfl) (by repeat (first | exact Reg.NoQ.body (fun _ _ h => h) (fun _ h => h) | refine Reg.NoQ.then ?_ | refine Reg.NoQ.inBlock ?_)) ?_
            intro Qf hQf
            go_wp2_with (go_at_call 54; refine Calls.ret (branchSet_any _ a _ x (a.mask t1) (a.mask t2) hTR.out hV.out hU1 hU2) ?_; rintro v w3 ⟨rfl, hU, hb3⟩; have hU3 := hide hU; have hb33 := hide hb3; have hsz3 := hb3.size; have hbase3 : w1.heap.size ≤ w3.heap.size := by omega
                         have hown3 := (Kept.of_below hb3 (fun _ => False)).ownsRow hownd.out (fun _ _ => id); clear hU hb3)
            refine ⟨rfl, ?_⟩
            have hown5 := own_shrink (m := r.length) hown3 (by omega)
            rw [masks_take] at hown5
            go_wp2_with (at_builtin; refine wpList_app_new row69 rfl _ _ rfl w1.heap.size (.slice (some ⟨g, 0, none⟩) r.length c) r.length _ rfl hown5 [.int .u64 (a.brS x (a.mask t1) (a.mask t2) : Int)] 1 rfl rfl (by simp [Value.oneCell']) (by omega) hbase3 ?_; intro g2 cap' w4 hown4 hk4 hmv4 hg4)
            refine ⟨⟨k, .node x t1 t2 :: r, by go_num, by omega, hNX.out, ?_, by show _ ≤ _; simp; omega, ?_⟩, by simp [intOf]⟩
            · show World.ownsRow _ _ _ _ _ _ _
              rw [masks_cons]
              exact hown4
            · refine (hbr.drew.trans (hb33.out.mono hszr)).trans (hk4.below hbase3 (fun b hb e => ?_))
              have := own_base hown5 e
              omega
        · have hi0 : i = 0 := by omega
          subst hi0
          rw [show (((0 : Nat) : Int) - 1) = -1 from rfl]
          have hs4 : s = [treeOf sh lb] := by
            have := hs3.out
            rw [List.drop_zero, List.drop_zero, hST.out] at this
            exact (Option.some.inj this).symm
          subst hs4
          obtain ⟨g, cap, hv1, hcl⟩ := own_get (k := 0) hown.out (u := .int .u64 (a.mask (treeOf sh lb) : Int)) (by simp [masks])
          injection hv1 with hv1 _ hv1c
          subst hv1 hv1c
          have hU := TA.mask_u64 hV.out (treeOf sh lb)
          have hfin : Hid (accT a sh lb = .tuple #[.bool (a.accept.any (mBit (a.mask (treeOf sh lb)))), .int .i64 0]) := by
            show _ = _
            have : a.lang (treeOf sh lb) = a.accept.any (mBit (a.mask (treeOf sh lb))) := accS_any a _ fun q hq => (hACC.out q hq).1
            simp [accT, hV.out, hVT.out, this]
          have hbW := hide (hb1.trans (hbr.mono hsz))
          clear hs3 hown hsl
          go_wp2_with fail
          go_loop [73] (fun jj => ∃ (j : Nat), jj = .int .i64 (j : Int) ∧ j ≤ a.accept.length ∧ Hid (∀ j', j' < j → ∀ q, a.accept[j']? = some q → mBit (a.mask (treeOf sh lb)) q = false)) (fun jj => a.accept.length - (intOf jj).toNat)
          case atStart => exact ⟨0, rfl, Nat.zero_le _, fun j hj => absurd hj (by omega)⟩
          case round =>
            obtain ⟨j, rfl, hj, hE⟩ := hrel
            by_cases hlt2 : j < a.accept.length
            · obtain ⟨b, off, q, rfl, hbb, hx, hc⟩ := h1.at hlt2
              have hc0 := (hbW.out.cell (by exact hbb)).trans (hc 0 (by omega))
              simp only [Nat.mul_one, Nat.add_zero, encI] at hc0
              obtain ⟨hq0, hq1⟩ := hACC.out q (List.mem_of_getElem? hx)
              have hX := hide hx
              clear hx hc
              cases hbt : mBit (a.mask (treeOf sh lb)) q
              · have hBT := hide hbt
                go_wp2_with fail
                refine ⟨⟨j + 1, by go_num, by omega, fun j' hj' q' hq' => ?_⟩, by simp [intOf]; omega⟩
                by_cases hjk : j' = j
                · subst hjk
                  rw [hX.out] at hq'
                  injection hq' with hq'
                  subst hq'
                  exact hBT.out
                · exact hE.out j' (by omega) q' hq'
              · have hBT := hide hbt
                go_wp2_with fail
                go_ret2
                refine ⟨?_, hbW.out⟩
                have : a.accept.any (mBit (a.mask (treeOf sh lb))) = true := List.any_eq_true.2 ⟨_, List.mem_of_getElem? hX.out, hBT.out⟩
                rw [hfin.out, this]
                rfl
            · go_wp2_with fail
              go_ret2
              refine ⟨?_, hbW.out⟩
              have : a.accept.any (mBit (a.mask (treeOf sh lb))) = false := List.any_eq_false.2 fun q hq => by
                obtain ⟨j', hj'⟩ := List.mem_iff_getElem?.1 hq
                rw [hE.out j' (by have := lt_of_get hj'; omega) q hj']
                simp
              rw [hfin.out, this]
              rfl
end Go.Proofs.Ytnimlcbgeiajiaa

namespace Go.Proofs.Ytnimlcbgeiajiaa
open Go.RowKit

theorem tb_fold {A : Type} {f : A → Int} {c : A → Bool} (r : Nat) : ∀ (l : List A) (m : Nat), (l.foldl (fun m e => if c e = true then setB m (f e) else m) m).testBit r = (m.testBit r || l.any fun e => c e && decide ((f e).toNat = r))
  | [], m => by simp
  | e :: l, m => by
    rw [List.foldl_cons, tb_fold r l, List.any_cons, ← Bool.or_assoc]
    congr 1
    cases hc : c e
    · simp
    · simp [setB, mOr, mPow, Nat.testBit_or, Nat.testBit_two_pow]

theorem mem_plLv {lf : List Nat} {e : Leaf} : e ∈ plLv lf ↔ ∃ x, x < lf.length ∧ e = ⟨(x : Int), (mleaf lf x : Int)⟩ := by
  simp only [plLv, List.mem_map, List.mem_range]
  constructor
  · rintro ⟨x, hx, rfl⟩; exact ⟨x, hx, rfl⟩
  · rintro ⟨x, hx, rfl⟩; exact ⟨x, hx, rfl⟩
theorem mem_plBr {L n : Nat} {t : List (List (List Nat))} {e : Branch} : e ∈ plBr L n t ↔ ∃ x i j, x < L ∧ i < n ∧ j < n ∧ e = ⟨(x : Int), (i : Int), (j : Int), (mbr t x i j : Int)⟩ := by
  simp only [plBr, List.mem_flatMap, List.mem_map, List.mem_range]
  constructor
  · rintro ⟨x, hx, i, hi, j, hj, rfl⟩; exact ⟨x, i, j, hx, hi, hj, rfl⟩
  · rintro ⟨x, i, j, hx, hi, hj, rfl⟩; exact ⟨x, hx, i, hi, j, hj, rfl⟩
theorem mem_accIdx {ac : List Bool} {i : Nat} : i ∈ accIdx ac ↔ i < ac.length ∧ macc ac i = true := by simp [accIdx, List.mem_filter]

section
variable {L : Nat} {ac : List Bool} {lf : List Nat} {t : List (List (List Nat))}
theorem plain_valid (h : MOK L ac lf t) (h1 : 1 ≤ L) (h8 : L ≤ 8) (hn : ac.length ≤ 64) : (plainA L ac lf t).valid = true := by
  simp only [TA.valid, TA.head, plainA, Bool.and_eq_true]
  refine ⟨⟨⟨⟨⟨⟨decide_eq_true (by omega), decide_eq_true (by omega)⟩, decide_eq_true (by omega)⟩, decide_eq_true (by omega)⟩, ?_⟩, ?_⟩, ?_⟩
  · rw [List.all_eq_true]
    intro q hq
    obtain ⟨i, hi, rfl⟩ := List.mem_map.1 hq
    have := (mem_accIdx.1 hi).1
    simp [inR]; omega
  · rw [List.all_eq_true]
    intro e he
    obtain ⟨x, hx, rfl⟩ := mem_plLv.1 he
    rw [h.lfl] at hx
    have := h.isM.leaf_lt x hx
    simp [okLeaf, inR]; omega
  · rw [List.all_eq_true]
    intro e he
    obtain ⟨x, i, j, hx, hi, hj, rfl⟩ := mem_plBr.1 he
    have := h.isM.br_lt x i j hx hi hj
    simp [okBranch, inR]; omega
theorem plain_leaf (h : MOK L ac lf t) {x : Nat} (hx : x < L) : (plainA L ac lf t).leafS x = 2 ^ mleaf lf x := by
  apply Nat.eq_of_testBit_eq
  intro r
  show (leafM (plLv lf) x).testBit r = _
  have := tb_fold (f := fun e : Leaf => e.to) (c := fun e => decide (e.letter = (x : Int))) r (plLv lf) 0
  simp only [decide_eq_true_eq] at this
  unfold leafM
  rw [this, Nat.testBit_two_pow, Nat.zero_testBit, Bool.false_or, Bool.eq_iff_iff, List.any_eq_true, decide_eq_true_eq]
  constructor
  · rintro ⟨e, he, h2⟩
    obtain ⟨x', -, rfl⟩ := mem_plLv.1 he
    simp at h2
    obtain ⟨h4, h3⟩ := h2
    obtain rfl : x' = x := by omega
    exact h3
  · rintro rfl
    exact ⟨_, mem_plLv.2 ⟨x, by rw [h.lfl]; exact hx, rfl⟩, by simp⟩
theorem plain_br {x p q : Nat} (hx : x < L) (hp : p < ac.length) (hq : q < ac.length) : (plainA L ac lf t).brS x (2 ^ p) (2 ^ q) = 2 ^ mbr t x p q := by
  apply Nat.eq_of_testBit_eq
  intro r
  show (brM (2 ^ p) (2 ^ q) (byL (plBr L ac.length t) x)).testBit r = _
  have := tb_fold (f := fun e : Branch => e.to) (c := fun e => mBit (2 ^ p) e.first && mBit (2 ^ q) e.second) r (byL (plBr L ac.length t) x) 0
  unfold brM
  rw [this, Nat.testBit_two_pow, Nat.zero_testBit, Bool.false_or, Bool.eq_iff_iff, List.any_eq_true, decide_eq_true_eq]
  constructor
  · rintro ⟨e, he, h2⟩
    obtain ⟨he, hl⟩ := List.mem_filter.1 he
    obtain ⟨x', i, j, -, -, -, rfl⟩ := mem_plBr.1 he
    simp [mBit, Nat.testBit_two_pow] at h2 hl
    obtain ⟨⟨rfl, rfl⟩, h3⟩ := h2
    obtain rfl : x' = x := by omega
    exact h3
  · rintro rfl
    exact ⟨_, List.mem_filter.2 ⟨mem_plBr.2 ⟨x, p, q, hx, hp, hq, rfl⟩, by simp⟩, by simp [mBit]⟩
theorem plain_mask (h : MOK L ac lf t) : ∀ tr : Tr, tr.ok L → (plainA L ac lf t).mask tr = 2 ^ runT (mleaf lf) (mbr t) tr
  | .leaf _, hx => plain_leaf h hx
  | .node x a b, hx => by
    show (plainA L ac lf t).brS x ((plainA L ac lf t).mask a) ((plainA L ac lf t).mask b) = _
    rw [plain_mask h a hx.2.1, plain_mask h b hx.2.2]
    exact plain_br hx.1 (h.isM.run_lt a hx.2.1) (h.isM.run_lt b hx.2.2)
theorem plain_lang (h : MOK L ac lf t) (tr : Tr) (ht : tr.ok L) : (plainA L ac lf t).lang tr = macc ac (runT (mleaf lf) (mbr t) tr) := by
  show (plainA L ac lf t).accS ((plainA L ac lf t).mask tr) = _
  have hlt := h.isM.run_lt tr ht
  rw [plain_mask h tr ht, accS_any _ _ (fun q hq => by
    obtain ⟨i, -, rfl⟩ := List.mem_map.1 hq
    omega), Bool.eq_iff_iff, List.any_eq_true]
  constructor
  · rintro ⟨q, hq, h2⟩
    obtain ⟨i, hi, rfl⟩ := List.mem_map.1 hq
    simp [mBit, Nat.testBit_two_pow] at h2
    subst h2
    exact (mem_accIdx.1 hi).2
  · intro h2
    exact ⟨_, List.mem_map.2 ⟨_, mem_accIdx.2 ⟨hlt, h2⟩, rfl⟩, by simp [mBit]⟩
theorem nodup_le : ∀ (n : Nat) (l : List Nat), l.Nodup → (∀ x ∈ l, ∃ p, p < n ∧ x = 2 ^ p) → l.length ≤ n
  | 0, l, _, h => by
    cases l with
    | nil => simp
    | cons x l =>
      obtain ⟨p, hp, -⟩ := h x List.mem_cons_self
      omega
  | n + 1, l, hn, h => by
    have h1 := nodup_le n (l.erase (2 ^ n)) (hn.erase _) (fun x hx => by
      have hx2 := (hn.mem_erase_iff).1 hx
      obtain ⟨p, hp, e⟩ := h x hx2.2
      refine ⟨p, ?_, e⟩
      have : p ≠ n := fun e2 => hx2.1 (by rw [e, e2])
      omega)
    rw [List.length_erase] at h1
    split at h1 <;> omega
theorem plain_small (h : MOK L ac lf t) (hn : ac.length ≤ 64) : ¬ (plainA L ac lf t).Large := by
  rintro ⟨l, hnd, hr, hlen⟩
  have := nodup_le ac.length l hnd fun s hs => by
    obtain ⟨tr, htr, rfl⟩ := reach_run.1 (hr s hs)
    have htr' : tr.ok L := by simpa [plainA] using htr
    exact ⟨_, h.isM.run_lt tr htr', plain_mask h tr htr'⟩
  omega
end

theorem flatMap_same {A B : Type} {l : List A} {f g : A → List B} (h : ∀ x ∈ l, f x = g x) : l.flatMap f = l.flatMap g := by
  induction l with
  | nil => rfl
  | cons x l ih => rw [List.flatMap_cons, List.flatMap_cons, h x List.mem_cons_self, ih fun y hy => h y (List.mem_cons_of_mem _ hy)]
theorem plain_same {L : Nat} {ac ac' : List Bool} {lf lf' : List Nat} {t t' : List (List (List Nat))} {Λ Λ' : Tr → Bool} (h : MOK L ac lf t) (h' : MOK L ac' lf' t') (hc : Canon L ac.length (mleaf lf) (mbr t) (macc ac) Λ)
    (hc' : Canon L ac'.length (mleaf lf') (mbr t') (macc ac') Λ') (hΛ : ∀ tr : Tr, tr.ok L → Λ tr = Λ' tr) : plainA L ac' lf' t' = plainA L ac lf t := by
  obtain ⟨hn, h1, h2, h3⟩ := Canon.unique hc hc' hΛ
  have e1 : accIdx ac' = accIdx ac := by
    unfold accIdx
    rw [← hn]
    exact List.filter_congr fun x hx => (h3 x (List.mem_range.1 hx)).symm
  have e2 : plLv lf' = plLv lf := by
    unfold plLv
    rw [h.lfl, h'.lfl]
    exact List.map_congr_left fun x hx => by rw [h1 x (List.mem_range.1 hx)]
  have e3 : plBr L ac'.length t' = plBr L ac.length t := by
    unfold plBr
    rw [← hn]
    refine flatMap_same fun x hx => flatMap_same fun i hi => List.map_congr_left fun j hj => ?_
    rw [h2 x i j (List.mem_range.1 hx) (List.mem_range.1 hi) (List.mem_range.1 hj)]
  unfold plainA
  rw [e1, e2, e3, hn]

/-! ## its memory -/
theorem flat2 (l : List Leaf) : ∀ (k j : Nat) (b : Leaf), l[k]? = some b → j < 2 → (l.flatMap lvCells)[k * 2 + j]? = some (encL b j) := by
  induction l with
  | nil => intro k j b h; simp at h
  | cons c l ih =>
    intro k j b h hj
    rw [List.flatMap_cons]
    cases k with
    | zero =>
      simp at h; subst h
      rw [List.getElem?_append_left (by simp [lvCells]; omega)]
      match j, hj with
      | 0, _ => simp [lvCells, encL]
      | 1, _ => simp [lvCells, encL]
    | succ k =>
      simp at h
      rw [List.getElem?_append_right (by simp [lvCells]; omega)]
      have := ih k j b h hj
      rw [show (k + 1) * 2 + j - (lvCells c).length = k * 2 + j from by simp [lvCells]; omega]
      exact this
theorem sl_own {D : Type} {w : World} {base sz : Nat} {e : TypeId} {v : Value} {enc : D → Nat → Value} {ds : List D} {xs : List Value} (h : w.ownsRow base e sz v ds.length xs) (hx : ∀ (k j : Nat) (d : D), ds[k]? = some d → j < sz → xs[k * sz + j]? = some (enc d j)) :
    ∃ A c, v = .slice A ds.length c ∧ Sl w w.heap.size sz enc A ds := by
  obtain ⟨hl, hh⟩ := h
  rcases hh with ⟨rfl, h0⟩ | ⟨g, cap, cur, rfl, hb, hg, hc, hm, hs, ht⟩
  · have : ds = [] := List.length_eq_zero_iff.1 h0
    subst this
    exact ⟨none, 0, rfl, Sl.nil rfl⟩
  · refine ⟨_, _, rfl, by unfold maxLen at hm; omega, fun _ => ⟨g, 0, rfl, (Array.getElem?_eq_some_iff.1 hg).1, fun k d hd j hj => ?_⟩⟩
    rw [cell_of_row w g _ cur e (0, 0) hg, Nat.zero_add, ← hx k j d hd hj, ← ht, List.getElem?_take]
    have hk := lt_of_get hd
    have : k * sz + j < ds.length * sz := by
      have : (k + 1) * sz ≤ ds.length * sz := Nat.mul_le_mul_right _ hk
      rw [Nat.succ_mul] at this
      omega
    simp [this]
theorem own_ta {w : World} {base L : Nat} {v : Value} {ac : List Bool} {lf : List Nat} {t : List (List (List Nat))} (h : OwnTA w base v L ac.length (accIdx ac) (plLv lf) (plBr L ac.length t)) : IsTA w w.heap.size v (plainA L ac lf t) := by
  obtain ⟨va, vl, vb, rfl, h1, h2, h3⟩ := h
  have h1' : w.ownsRow base 3 1 va ((accIdx ac).map fun i : Nat => (i : Int)).length ((accIdx ac).map encN) := by simpa using h1
  obtain ⟨A1, c1, rfl, s1⟩ := sl_own (enc := encI) h1' (fun k j d hd hj => by
    have hj0 : j = 0 := by omega
    subst hj0
    rw [List.getElem?_map] at hd
    rw [Nat.mul_one, Nat.add_zero, List.getElem?_map]
    cases hk : (accIdx ac)[k]? with
    | none => rw [hk] at hd; cases hd
    | some i =>
      rw [hk] at hd
      have := Option.some.inj hd
      subst this
      rfl)
  obtain ⟨A2, c2, rfl, s2⟩ := sl_own (enc := encL) h2 (fun k j d hd hj => flat2 _ k j d hd hj)
  obtain ⟨A3, c3, rfl, s3⟩ := sl_own (enc := encBr) h3 (fun k j d hd hj => flat4 _ k j d hd hj)
  exact ⟨A1, c1, A2, c2, A3, c3, rfl, s1, s2, s3⟩

theorem plBr_len {L n : Nat} {t : List (List (List Nat))} : (plBr L n t).length = L * (n * n) := by
  unfold plBr
  simp [List.length_flatMap, List.map_const', List.sum_replicate_nat]
/-- Both automata give the same answer on all trees. -/
theorem keep_acc {a : TA} {ac : List Bool} {lf : List Nat} {t : List (List (List Nat))} (hv : a.valid = true) (h : MOK a.letters.toNat ac lf t) (hn : ac.length ≤ 64) (hc : Canon a.letters.toNat ac.length (mleaf lf) (mbr t) (macc ac) a.lang) (sh lb : List Int) :
    accT (plainA a.letters.toNat ac lf t) sh lb = accT a sh lb := by
  obtain ⟨h1, h8, -, -, -, -, -, -⟩ := TA.valid_parts hv
  have hpv := plain_valid h (by omega) (by omega) hn
  have hl : (plainA a.letters.toNat ac lf t).letters = a.letters := by simp [plainA]; omega
  unfold accT
  rw [hpv, hv, hl]
  cases hvt : validT a.letters sh lb
  · rfl
  · have hok := (validT_tree hvt).2.1
    rw [plain_lang h _ hok, hc.lang _ hok]
end Go.Proofs.Ytnimlcbgeiajiaa

namespace Go.Proofs.Ytnimlcbgeiajiaa
open Go.RowKit

/-- The canonical machine of the automaton has so many states. -/
def CanN (a : TA) (n : Nat) : Prop := ∃ leaf br acc, Canon a.letters.toNat n leaf br acc a.lang
theorem CanN.eq {a : TA} {n n' : Nat} (h : CanN a n) (h' : CanN a n') : n = n' := by
  obtain ⟨_, _, _, h⟩ := h
  obtain ⟨_, _, _, h'⟩ := h'
  exact (h.unique h' fun _ _ => rfl).1
/-- The product of the numbers of states, cut at 65. -/
def szN (ns : List Nat) : Nat := ns.foldl (fun s n => min (s * n) 65) 1
def SzR (l : List TA) (s : Nat) : Prop := ∃ ns : List Nat, ns.length = l.length ∧ (∀ (i : Nat) (a : TA) (n : Nat), l[i]? = some a → ns[i]? = some n → CanN a n) ∧ s = szN ns
theorem SzR.eq {l : List TA} {s s' : Nat} (h : SzR l s) (h' : SzR l s') : s = s' := by
  obtain ⟨ns, h1, h2, rfl⟩ := h
  obtain ⟨ns', h1', h2', rfl⟩ := h'
  have : ns = ns' := by
    refine List.ext_getElem? fun i => ?_
    by_cases hi : i < l.length
    · obtain ⟨a, ha⟩ := get_lt hi
      obtain ⟨n, hn⟩ := get_lt (l := ns) (i := i) (by omega)
      obtain ⟨n', hn'⟩ := get_lt (l := ns') (i := i) (by omega)
      rw [hn, hn', (h2 i a n ha hn).eq (h2' i a n' ha hn')]
    · rw [List.getElem?_eq_none (by omega), List.getElem?_eq_none (by omega)]
  rw [this]
theorem SzR.nil : SzR [] 1 := ⟨[], rfl, fun i a n h => by simp at h, rfl⟩
theorem SzR.snoc {l : List TA} {s : Nat} (h : SzR l s) {a : TA} {n : Nat} (hn : CanN a n) : SzR (l ++ [a]) (min (s * n) 65) := by
  obtain ⟨ns, h1, h2, rfl⟩ := h
  refine ⟨ns ++ [n], by simp [h1], fun i b m hb hm => ?_, by simp [szN]⟩
  by_cases hi : i < l.length
  · rw [List.getElem?_append_left hi] at hb
    rw [List.getElem?_append_left (by omega)] at hm
    exact h2 i b m hb hm
  · have hi2 := lt_of_get hb
    simp at hi2
    obtain rfl : i = l.length := by omega
    rw [← h1] at hm
    simp at hb hm
    subst hb hm
    exact hn
/-- The language of all, joined from the left. -/
def langJ (j : Bool → Bool → Bool) : List TA → Tr → Bool
  | [], _ => false
  | a :: l, t => l.foldl (fun x b => j x (b.lang t)) (a.lang t)
theorem langJ_one (j : Bool → Bool → Bool) (a : TA) : langJ j [a] = a.lang := rfl
theorem langJ_snoc (j : Bool → Bool → Bool) {l : List TA} (h : l ≠ []) (a : TA) (t : Tr) : langJ j (l ++ [a]) t = j (langJ j l t) (a.lang t) := by
  cases l with
  | nil => exact absurd rfl h
  | cons b l => simp [langJ]

/-- What joined returns. -/
def JoinR (w' : World) (base : Nat) (j : Bool → Bool → Bool) (l : List TA) (r : Value) : Prop :=
  ((l = [] ∨ chkL l = false) ∧ r = .tuple #[zeroTA, .int .i64 1]) ∨
  (l ≠ [] ∧ chkL l = true ∧ ((∃ a ∈ l, a.Large) ∨ (∀ a ∈ l, ¬ a.Large) ∧ ∃ s, SzR l s ∧ 64 < s) ∧ r = .tuple #[zeroTA, .int .i64 4]) ∨
  (l ≠ [] ∧ chkL l = true ∧ (∀ a ∈ l, ¬ a.Large) ∧ ∃ s v L ac lf t, SzR l s ∧ s ≤ 64 ∧ r = .tuple #[v, .int .i64 0] ∧ (∀ a ∈ l, a.letters.toNat = L) ∧ OwnTA w' base v L ac.length (accIdx ac) (plLv lf) (plBr L ac.length t) ∧
    MOK L ac lf t ∧ ac.length ≤ 64 ∧ Canon L ac.length (mleaf lf) (mbr t) (macc ac) (langJ j l))

/-- What has been joined so far. -/
structure JoinS (wr : World) (base : Nat) (L : Nat) (j : Bool → Bool → Bool) (l : List TA) (out : Value) (s : Nat) : Prop where
  sz : SzR l s
  pos : 1 ≤ s
  le : s ≤ 65
  none_ : l = [] → out = .pointer none ∧ s = 1
  some_ : l ≠ [] → ∃ gM ac lf t, out = .pointer (some ⟨gM, 0, none⟩) ∧ Mach wr base gM L ac lf t ∧ MOK L ac lf t ∧ ac.length ≤ 64 ∧ (s ≤ 64 → ac.length ≤ s ∧ Canon L ac.length (mleaf lf) (mbr t) (macc ac) (langJ j l))
theorem JoinS.keep0 {w w' : World} {base L : Nat} {j : Bool → Bool → Bool} {l : List TA} {out : Value} {s : Nat} (h : JoinS w base L j l out s) (hk : Kept w w' (fun _ => False)) : JoinS w' base L j l out s :=
  ⟨h.sz, h.pos, h.le, h.none_, fun hn => by
    obtain ⟨gM, ac, lf, t, h1, h2, h3⟩ := h.some_ hn
    exact ⟨gM, ac, lf, t, h1, h2.keep0 hk, h3⟩⟩
theorem chkL_at {l : List TA} (h : chkL l = true) {a : TA} (ha : a ∈ l) : a.valid = true ∧ a.letters = (l.headD ⟨0, 0, [], [], []⟩).letters := by
  unfold chkL at h
  simp only [Bool.and_eq_true, List.all_eq_true, decide_eq_true_eq] at h
  exact ⟨h.1 a ha, h.2 a ha⟩

set_option maxHeartbeats 16000000 in
set_option maxRecDepth 100000 in
theorem joined_any {w : World} {c : Nat} {A : Option Addr} {l : List TA} {vj : Value} {j : Bool → Bool → Bool} (h : TAs w w.heap.size A l) (hj : Op3 vj j) (hbr : ∀ a ∈ l, a.branches.length ≤ 900000) (hl6 : l.length ≤ 1000) :
    Calls Try.prog 61 #[.agg #[vj], .slice A l.length c] w (Ret fun r w' => Below w.heap.size w w' ∧ JoinR w' w.heap.size j l r) := by
  obtain ⟨w1, hw1, hb1, hB1, hk1⟩ := box_blk w #[vj] 90
  obtain ⟨w2, hw2, hb2, hB2, hk2⟩ := box_blk w1 #[.int .i64 0, .int .i64 0, .slice none 0 0, .slice none 0 0, .slice none 0 0] 26
  have z1 := hb1.size
  have hb02 := hb1.trans (hb2.mono z1)
  have hHS := hide (h.keep (fun _ hp => hb02.cell hp) hb02.size)
  have hJ := hide hj
  have hc2 := hB2.cell
  have hf2 := hB2.frozen
  have hl2 := hB2.lt
  have hH02 := hide hb02
  have hB12 := hB1.kept hk2 id
  by_cases h0 : l.length = 0
  · have hl0 : l = [] := List.length_eq_zero_iff.1 h0
    clear hj z1
    go_enter Try.func61, Try.ntmps61
    go_wp2_with fail
    obtain ⟨wF, hwF, hgF, hkF⟩ := set5_facts hB2 (.int .i64 0) (.int .i64 0) (.slice none 0 0) (.slice none 0 0) (.slice none 0 0)
    change bodyPost _ _ _ _ _ (set5 w2 w1.heap.size (.int .i64 0) (.int .i64 0) (.slice none 0 0) (.slice none 0 0) (.slice none 0 0))
    rw [hwF]
    have hcF := hgF.cell
    have z1 := hb1.size
    exact bodyPost_ret (v := .tuple #[zeroTA, .int .i64 1]) (by simp [results, Try.results61, go_sem, hcF, zeroTA]) rfl ⟨hH02.out.trans (hkF.below hH02.out.size (fun b hb e => by omega)), .inl ⟨.inl hl0, rfl⟩⟩
  · have hne : l ≠ [] := fun e => h0 (by rw [e]; rfl)
    have hNE := hide hne
    have hz0 : ((l.length : Int) == 0) = false := by simp; omega
    have hz02 := hide hH02.out.size
    have hZ1 := hide z1
    clear hj z1 hne
    go_enter Try.func61, Try.ntmps61
    go_wp2_with fail
    refine Calls.ret (check_any hHS.out) ?_
    rintro v w3 ⟨rfl, hb3⟩
    have hB23 := hB2.kept (Kept.of_below hb3 (fun _ => False)) id
    have hc3 := hB23.cell
    have hf3 := hB23.frozen
    have hl3 := hB23.lt
    have hH23 := hide hb3
    have hz3 := hide hb3.size
    cases hc : chkL l with
    | false =>
      simp only [errno]
      have hC := hide hc
      clear hc hb3
      go_wp2_with fail
      obtain ⟨wF, hwF, hgF, hkF⟩ := set5_facts hB23 (.int .i64 0) (.int .i64 0) (.slice none 0 0) (.slice none 0 0) (.slice none 0 0)
      change bodyPost _ _ _ _ _ (set5 w3 w1.heap.size (.int .i64 0) (.int .i64 0) (.slice none 0 0) (.slice none 0 0) (.slice none 0 0))
      rw [hwF]
      have hcF := hgF.cell
      exact bodyPost_ret (v := .tuple #[zeroTA, .int .i64 1]) (by simp [results, Try.results61, go_sem, hcF, zeroTA]) rfl ⟨(hH02.out.trans (hH23.out.mono hz02.out)).trans (hkF.below (Nat.le_trans hz02.out hz3.out) (fun b hb e => by have := hZ1.out; omega)), .inl ⟨.inr hC.out, rfl⟩⟩
    | true =>
      simp only [errno]
      have hC := hide hc
      clear hc hb3
      have hn := h.1
      have hLJ : 1 ≤ (l.headD ⟨0, 0, [], [], []⟩).letters ∧ (l.headD ⟨0, 0, [], [], []⟩).letters ≤ 8 := by
        obtain ⟨a, ha⟩ := get_lt (l := l) (i := 0) (by omega)
        obtain ⟨h1, h2⟩ := chkL_at hC.out (List.mem_of_getElem? ha)
        have := TA.valid_parts h1
        rw [← h2]
        exact ⟨this.1, this.2.1⟩
      obtain ⟨L0, hL0⟩ : ∃ L0, (l.headD ⟨0, 0, [], [], []⟩).letters = L0 := ⟨_, rfl⟩
      rw [hL0] at hLJ
      have hLJH := hide hLJ
      have hLH := hide hL0
      clear hLJ hL0
      go_wp2_with fail
      go_loopw [7, 8, 25] (fun oo ss ii wr => ∃ (k s : Nat), ii = .int .i64 (k : Int) ∧ ss = .int .i64 (s : Int) ∧ k ≤ l.length ∧ Below w3.heap.size w3 wr ∧ Hid (∀ a ∈ l.take k, ¬ a.Large) ∧ Hid (JoinS wr w.heap.size L0.toNat j (l.take k) oo s)) (fun _ _ ii _ => l.length - (intOf ii).toNat)
      case atStart => exact ⟨0, 1, rfl, rfl, Nat.zero_le _, Below.refl _ _, fun a ha => by simp at ha, ⟨SzR.nil, by omega, by omega, fun _ => ⟨rfl, rfl⟩, fun h => absurd rfl h⟩⟩
      case round =>
        obtain ⟨k, s, rfl, rfl, hk, hB, hNL, hJS⟩ := hrel
        have hB2r := hB23.kept (Kept.of_below hB (fun _ => False)) id
        have hB1r := (hB12.kept (Kept.of_below hH23.out (fun _ => False)) id).kept (Kept.of_below hB (fun _ => False)) id
        have hzr := hide hB.size
        have hb0r := hide ((hH02.out.trans (hH23.out.mono hz02.out)).trans (hB.mono (Nat.le_trans hz02.out hz3.out)))
        have hHB := hide hB
        by_cases hlt : k < l.length
        · obtain ⟨b, off, a, A1, c1, A2, c2, A3, c3, rfl, hbb, ha, q0, q1, q2, q3, q4, s1, s2, s3⟩ := h.at hlt
          have q0' := (hb0r.out.cell (by exact hbb)).trans q0
          have q1' := (hb0r.out.cell (by exact hbb)).trans q1
          have q2' := (hb0r.out.cell (by exact hbb)).trans q2
          have q3' := (hb0r.out.cell (by exact hbb)).trans q3
          have q4' := (hb0r.out.cell (by exact hbb)).trans q4
          obtain ⟨w5, hw5, hb5, hB5, hk5⟩ := box_blk wr #[.int .i64 a.letters, .int .i64 a.states, .slice A1 a.accept.length c1, .slice A2 a.leaves.length c2, .slice A3 a.branches.length c3] 26
          have hb05 := hb0r.out.trans (hb5.mono hb0r.out.size)
          have hT : IsTA w5 w5.heap.size (.agg #[.int .i64 a.letters, .int .i64 a.states, .slice A1 a.accept.length c1, .slice A2 a.leaves.length c2, .slice A3 a.branches.length c3]) a :=
            IsTA.keep ⟨A1, c1, A2, c2, A3, c3, rfl, s1, s2, s3⟩ (fun _ hp => hb05.cell hp) hb05.size
          have hHT := hide hT
          have hcb := hB5.cell
          have hHA := hide ha
          have hmem := List.mem_of_getElem? ha
          have hbra := hide (hbr a hmem)
          have hchk := hide (chkL_at hC.out hmem)
          have hJ5 := hide (hJS.out.keep0 hk5)
          have hB25 := hB2r.kept hk5 id
          have hB15 := hB1r.kept hk5 id
          have hH05 := hide hb05
          have hH35 := hide (hHB.out.trans (hb5.mono hzr.out))
          have hz5 := hide hb5.size
          clear q0 q1 q2 q3 q4 s1 s2 s3 hT hc3 hf3 hc2 hf2 hb05 hb5 hB ha hmem
          go_wp2_with fail
          refine Calls.ret (treeMin_any _ a w5 hHT.out hchk.out.1 hbra.out) ?_
          rintro v w6 ⟨hb6, hres⟩
          have hB26 := hB25.kept (Kept.of_below hb6 (fun _ => False)) id
          have hB16 := hB15.kept (Kept.of_below hb6 (fun _ => False)) id
          have hJ6 := hide (hJ5.out.keep0 (Kept.of_below hb6 (fun _ => False)))
          have hH06 := hide (hH05.out.trans (hb6.mono hH05.out.size))
          have hH36 := hide (hH35.out.trans (hb6.mono hH35.out.size))
          rcases hres with ⟨rfl, hlg⟩ | ⟨gN, ac', lf', t', rfl, hgN, ⟨va', vl', vb', hN⟩, hok', h64', hnl', hcan'⟩
          · have hLG := hide hlg
            have hc6 := hB26.cell
            have hf6 := hB26.frozen
            have hl6' := hB26.lt
            clear hlg hb6
            go_wp2_with fail
            obtain ⟨wF, hwF, hgF, hkF⟩ := set5_facts hB26 (.int .i64 0) (.int .i64 0) (.slice none 0 0) (.slice none 0 0) (.slice none 0 0)
            change bodyPost _ _ _ _ _ (set5 w6 w1.heap.size (.int .i64 0) (.int .i64 0) (.slice none 0 0) (.slice none 0 0) (.slice none 0 0))
            rw [hwF]
            have hcF := hgF.cell
            exact bodyPost_ret (v := .tuple #[zeroTA, .int .i64 4]) (by simp [results, Try.results61, go_sem, hcF, zeroTA]) rfl ⟨hH06.out.trans (hkF.below hH06.out.size (fun b hb e => by have := hZ1.out; omega)), .inr (.inl ⟨hNE.out, hC.out, .inl ⟨a, List.mem_of_getElem? hHA.out, hLG.out⟩, rfl⟩)⟩
          · have hLa : a.letters.toNat = L0.toNat := by rw [hchk.out.2, hLH.out]
            have hCNN : Hid (CanN a ac'.length) := ⟨_, _, _, hcan'⟩
            rw [hLa] at hN hok' hcan'
            have hNN := hide hN
            have hOO := hide hok'
            have hNLa := hide hnl'
            have hCN := hide hcan'
            have hLL := hide hLa
            have hzb := hide (Nat.le_trans hH05.out.size (Nat.le_refl _))
            clear hN hok' hnl' hcan' hLa hb6
            go_wp2_with fail
            refine (states_any hNN.out (by omega)).mono ?_
            rintro e w7 ⟨rfl, rfl⟩
            have htk : l.take (k + 1) = l.take k ++ [a] := by rw [List.take_add_one, hHA.out]; rfl
            have hTK := hide htk
            have hNL' : Hid (∀ b ∈ l.take (k + 1), ¬ b.Large) := by
              intro b hb
              rw [hTK.out, List.mem_append, List.mem_singleton] at hb
              rcases hb with hb | rfl
              · exact hNL.out b hb
              · exact hNLa.out
            have hpos' := hOO.out.pos (by have := hLJH.out; omega)
            have hM7 : Hid (Mach w6 w.heap.size gN L0.toNat ac' lf' t') := Mach.weak ⟨_, _, _, hNN.out⟩ hzb.out
            clear htk
            by_cases hk0 : k = 0
            · subst hk0
              obtain ⟨rfl, rfl⟩ := hJ6.out.none_ rfl
              have hn65 : (ac'.length : Int) ≤ 65 := by omega
              have hn65' : (ac'.length : Int) < 65 := by omega
              go_wp2_with fail
              refine ⟨⟨1, ac'.length, rfl, rfl, by omega, hH36.out, hNL'.out, ?_⟩, by simp [intOf]; omega⟩
              have hsz : SzR (l.take 1) ac'.length := by
                have := SzR.nil.snoc hCNN.out
                rw [Nat.one_mul, Nat.min_eq_left (by omega)] at this
                have e := hTK.out
                rw [List.take_zero] at e
                rw [e]
                exact this
              refine ⟨hsz, by omega, by omega, fun e => ?_, fun _ => ⟨gN, ac', lf', t', rfl, hM7.out, hOO.out, h64', fun _ => ⟨Nat.le_refl _, ?_⟩⟩⟩
              · rw [hTK.out] at e
                simp at e
              · have e := hTK.out
                rw [List.take_zero, List.nil_append] at e
                rw [e]
                exact hCN.out
            · have hne' : l.take k ≠ [] := fun e => by
                rcases List.take_eq_nil_iff.1 e with e | e
                · exact hk0 e
                · exact hNE.out e
              obtain ⟨gM, ac, lf, t, rfl, ⟨va, vl, vb, hM⟩, hok, h64, hrest⟩ := hJ6.out.some_ hne'
              have hMM := hide hM
              have hOK := hide hok
              have hRS := hide hrest
              have hNE' := hide hne'
              have hs1 := hJ6.out.pos
              have hs65 := hJ6.out.le
              have hmul : s * ac'.length ≤ 65 * 64 := Nat.mul_le_mul hs65 h64'
              have hcO : w6.cell? ⟨w.heap.size, 0, none⟩ = some vj := hB16.cell 0
              have hM0 : (0 : Int) ≤ (s : Int) * (ac'.length : Int) := by rw [← Int.natCast_mul]; omega
              have hM1 : (s : Int) * (ac'.length : Int) ≤ 4160 := by rw [← Int.natCast_mul]; omega
              have hZS := hJ6.out.sz.snoc hCNN.out
              rw [← hTK.out] at hZS
              have hZZ := hide hZS
              clear hM hok hrest hne' hZS
              by_cases hs : s * ac'.length ≤ 64
              · have hp1 : (s : Int) * (ac'.length : Int) ≤ 65 := by rw [← Int.natCast_mul]; omega
                have hp2 : (s : Int) * (ac'.length : Int) < 65 := by rw [← Int.natCast_mul]; omega
                have hp3 : (s : Int) * (ac'.length : Int) ≤ 64 := by rw [← Int.natCast_mul]; omega
                go_wp2_with fail
                obtain ⟨vA, vL, vB, hN7⟩ := hM7.out
                refine Calls.ret (product_any hMM.out hN7 hOK.out hOO.out (by have := hLJH.out; omega) (by have := hLJH.out; omega) h64 h64' hJ.out) ?_
                rintro v w8 ⟨hb8, gR, ar, lr, tr, rfl, hgR, hMr, hokr, hler, hcanr⟩
                have hb38 := hide (hH36.out.trans (hb8.mono hH36.out.size))
                have hMR := hide (hMr.weak hH06.out.size)
                have hOR := hide hokr
                have hCR := hide hcanr
                have hLR := hide hler
                clear hMr hokr hler hcanr hb8 hcO
                go_wp2_with fail
                refine ⟨⟨k + 1, s * ac'.length, by go_num, by rw [Int.natCast_mul], by omega, hb38.out, hNL'.out, ?_⟩, by simp [intOf]; omega⟩
                obtain ⟨hle, hcan⟩ := hRS.out (Nat.le_trans (Nat.le_mul_of_pos_right s hpos') hs)
                have har : ar.length ≤ s * ac'.length := Nat.le_trans hLR.out (Nat.mul_le_mul_right _ hle)
                refine ⟨by have := hZZ.out; rwa [Nat.min_eq_left (by omega)] at this, Nat.mul_pos hs1 hpos', by omega, fun e => ?_, fun _ => ⟨gR, ar, lr, tr, rfl, hMR.out, hOR.out, by omega, fun _ => ⟨har, ?_⟩⟩⟩
                · rw [hTK.out] at e
                  simp at e
                · refine hCR.out.congr fun u hu => ?_
                  rw [hTK.out, langJ_snoc j hNE'.out, hcan.lang u hu, hCN.out.lang u hu]
              · have hp1 : ¬ (s : Int) * (ac'.length : Int) < 65 := by rw [← Int.natCast_mul]; omega
                have hp2 : (65 : Int) ≤ (s : Int) * (ac'.length : Int) := by rw [← Int.natCast_mul]; omega
                have hp3 : ¬ (64 : Int) < 0 := by omega
                go_wp2_with fail
                refine ⟨⟨k + 1, 65, by go_num, congrArg (Value.int .i64) (by split <;> omega), by omega, hH36.out, hNL'.out, ?_⟩, by simp [intOf]; omega⟩
                refine ⟨by have := hZZ.out; rwa [Nat.min_eq_right (by omega)] at this, by omega, by omega, fun e => ?_, fun _ => ⟨gM, ac, lf, t, rfl, ⟨va, vl, vb, hMM.out⟩, hOK.out, h64, fun h => absurd h (by omega)⟩⟩
                rw [hTK.out] at e
                simp at e
        · have hke : k = l.length := by omega
          have htl : l.take k = l := List.take_of_length_le (by omega)
          rw [htl] at hNL hJS
          obtain ⟨gM, ac, lf, t, rfl, ⟨va, vl, vb, hM⟩, hok, h64, hrest⟩ := hJS.out.some_ hNE.out
          have hMM := hide hM
          have hOK := hide hok
          have hRS := hide hrest
          have hcr := hB2r.cell
          have hfr := hB2r.frozen
          have hlr := hB2r.lt
          clear hM hok hrest htl hB hc3 hf3 hl3
          by_cases hs : s ≤ 64
          · have hsi : ¬ (64 : Int) < (s : Int) := by omega
            obtain ⟨L, hLe⟩ : ∃ L, L0.toNat = L := ⟨_, rfl⟩
            have hLh := hide hLe
            rw [hLe] at hMM hOK hRS
            have hall : ∀ a ∈ l, a.letters.toNat = L := fun a ha => by rw [(chkL_at hC.out ha).2, hLH.out, hLe]
            have hAL := hide hall
            have hL8 : L ≤ 8 := by have := hLJH.out; omega
            clear hLe hall
            go_wp2_with fail
            refine Calls.ret (plain_any hMM.out hOK.out hL8 (by omega)) ?_
            rintro v w5 ⟨hb5, va', vl', vb', rfl, ho1, ho2, ho3⟩
            obtain ⟨A5, d5, rfl⟩ := slice_of_own ho1
            obtain ⟨A6, d6, rfl⟩ := slice_of_own ho2
            obtain ⟨A7, d7, rfl⟩ := slice_of_own ho3
            have hB25 := hB2r.below hb5
            have hc25 := hB25.cell
            have hf25 := hB25.frozen
            have hlt5 := hB25.lt
            have hb05 := hide (hb0r.out.trans (hb5.mono hb0r.out.size))
            clear hcr hfr hlr hb5
            go_wp2_with fail
            obtain ⟨wF, hwF, hgF, hkF⟩ := set5_facts hB25 (.int .i64 (L : Int)) (.int .i64 (ac.length : Int)) (.slice A5 (accIdx ac).length d5) (.slice A6 (plLv lf).length d6) (.slice A7 (plBr L ac.length t).length d7)
            change bodyPost _ _ _ _ _ (set5 w5 w1.heap.size (.int .i64 (L : Int)) (.int .i64 (ac.length : Int)) (.slice A5 (accIdx ac).length d5) (.slice A6 (plLv lf).length d6) (.slice A7 (plBr L ac.length t).length d7))
            rw [hwF]
            have hcF := hgF.cell
            have hne : ∀ e, e ≠ 26 → ∀ g cs, g = w1.heap.size → ¬ Blk w5 g e cs := fun e he g cs eg hb => by subst eg; exact hB25.ne_ hb (fun h => he h.symm) rfl
            obtain ⟨-, hcan⟩ := hRS.out hs
            have hbr0 := hb0r.out.size
            refine bodyPost_ret (v := .tuple #[.agg #[.int .i64 (L : Int), .int .i64 (ac.length : Int), .slice A5 (accIdx ac).length d5, .slice A6 (plLv lf).length d6, .slice A7 (plBr L ac.length t).length d7], .int .i64 0]) (by simp [results, Try.results61, go_sem, hcF]) rfl
              ⟨hb05.out.trans (hkF.below hb05.out.size (fun b hb e => by have := hZ1.out; omega)), .inr (.inr ⟨hNE.out, hC.out, hNL.out, s, _, L, ac, lf, t, hJS.out.sz, hs, rfl, hAL.out, ⟨_, _, _, rfl, ?_, ?_, ?_⟩, hOK.out, h64, hcan⟩)⟩
            · exact own_weak (own_ty hkF ho1 (hne 3 (by decide))) hbr0
            · exact own_weak (own_ty hkF ho2 (hne 36 (by decide))) hbr0
            · exact own_weak (own_ty hkF ho3 (hne 59 (by decide))) hbr0
          · have hsi : (64 : Int) < (s : Int) := by omega
            go_wp2_with fail
            obtain ⟨wF, hwF, hgF, hkF⟩ := set5_facts hB2r (.int .i64 0) (.int .i64 0) (.slice none 0 0) (.slice none 0 0) (.slice none 0 0)
            change bodyPost _ _ _ _ _ (set5 wr w1.heap.size (.int .i64 0) (.int .i64 0) (.slice none 0 0) (.slice none 0 0) (.slice none 0 0))
            rw [hwF]
            have hcF := hgF.cell
            exact bodyPost_ret (v := .tuple #[zeroTA, .int .i64 4]) (by simp [results, Try.results61, go_sem, hcF, zeroTA]) rfl ⟨hb0r.out.trans (hkF.below hb0r.out.size (fun b hb e => by have := hZ1.out; omega)), .inr (.inl ⟨hNE.out, hC.out, .inr ⟨hNL.out, s, hJS.out.sz, by omega⟩, rfl⟩)⟩
end Go.Proofs.Ytnimlcbgeiajiaa

namespace Go.Proofs.Ytnimlcbgeiajiaa
open Go.RowKit

set_option maxHeartbeats 8000000 in
set_option maxRecDepth 100000 in
theorem union_any {w : World} {c : Nat} {A : Option Addr} {l : List TA} (h : TAs w w.heap.size A l) (hbr : ∀ a ∈ l, a.branches.length ≤ 900000) (hl6 : l.length ≤ 1000) :
    Calls Try.prog 34 #[.slice A l.length c] w (Ret fun r w' => Below w.heap.size w w' ∧ JoinR w' w.heap.size (fun a b => a || b) l r) := by
  obtain ⟨w1, hw1, hb1, hB1, hk1⟩ := box_blk w #[.int .i64 0, .int .i64 0, .slice none 0 0, .slice none 0 0, .slice none 0 0] 26
  have z1 := hide hb1.size
  have hH1 := hide hb1
  have hHS := hide (h.keep (fun _ hp => hb1.cell hp) hb1.size)
  clear h hb1
  go_enter Try.func34, Try.ntmps34
  go_wp2_with fail
  refine Calls.ret (op_any (f := 62) (j := 86) (.inl ⟨rfl, rfl⟩) w1) ?_
  rintro v w2 ⟨rfl, hb2⟩
  have hB2 := hB1.kept (Kept.of_below hb2 (fun _ => False)) id
  have hH02 := hide (hH1.out.trans (hb2.mono z1.out))
  have hS2 := hide (hHS.out.keep (fun _ hp => hb2.cell hp) hb2.size)
  clear hb2
  go_wp2_with fail
  refine Calls.ret (joined_any (j := fun a b => a || b) hS2.out (.inl ⟨rfl, rfl⟩) hbr hl6) ?_
  rintro v w3 ⟨hb3, hJR⟩
  have hB3 := hB2.kept (Kept.of_below hb3 (fun _ => False)) id
  have hc3 := hB3.cell
  have hf3 := hB3.frozen
  have hl3 := hB3.lt
  have hH03 := hide (hH02.out.trans (hb3.mono hH02.out.size))
  have hz2 := hide hH02.out.size
  clear hb3
  have hJR2 := hide hJR
  rcases hJR with ⟨h1, rfl⟩ | ⟨h1, h2, h3, rfl⟩ | ⟨h1, h2, h3, s, v, L, ac, lf, t, h4, h5, rfl, h6, ⟨va, vl, vb, rfl, ho1, ho2, ho3⟩, h7, h8, h9⟩
  · have e1 := hide h1
    unfold zeroTA
    clear h1 hJR2
    go_wp2_with fail
    obtain ⟨wF, hwF, hgF, hkF⟩ := set5_facts hB3 (.int .i64 0) (.int .i64 0) (.slice none 0 0) (.slice none 0 0) (.slice none 0 0)
    change bodyPost _ _ _ _ _ (set5 w3 w.heap.size (.int .i64 0) (.int .i64 0) (.slice none 0 0) (.slice none 0 0) (.slice none 0 0))
    rw [hwF]
    have hcF := hgF.cell
    exact bodyPost_ret (v := .tuple #[zeroTA, .int .i64 1]) (by simp [results, Try.results34, go_sem, hcF, zeroTA]) rfl ⟨hH03.out.trans (hkF.below hH03.out.size (fun b hb e => by omega)), .inl ⟨e1.out, rfl⟩⟩
  · have e1 := hide h1
    have e2 := hide h2
    have e3 := hide h3
    unfold zeroTA
    clear h1 h2 h3 hJR2
    go_wp2_with fail
    obtain ⟨wF, hwF, hgF, hkF⟩ := set5_facts hB3 (.int .i64 0) (.int .i64 0) (.slice none 0 0) (.slice none 0 0) (.slice none 0 0)
    change bodyPost _ _ _ _ _ (set5 w3 w.heap.size (.int .i64 0) (.int .i64 0) (.slice none 0 0) (.slice none 0 0) (.slice none 0 0))
    rw [hwF]
    have hcF := hgF.cell
    exact bodyPost_ret (v := .tuple #[zeroTA, .int .i64 4]) (by simp [results, Try.results34, go_sem, hcF, zeroTA]) rfl ⟨hH03.out.trans (hkF.below hH03.out.size (fun b hb e => by omega)), .inr (.inl ⟨e1.out, e2.out, e3.out, rfl⟩)⟩
  · have e1 := hide h1
    have e2 := hide h2
    have e3 := hide h3
    have e4 := hide h4
    have e6 := hide h6
    have e7 := hide h7
    have e9 := hide h9
    obtain ⟨A5, d5, rfl⟩ := slice_of_own ho1
    obtain ⟨A6, d6, rfl⟩ := slice_of_own ho2
    obtain ⟨A7, d7, rfl⟩ := slice_of_own ho3
    clear h1 h2 h3 h4 h6 h7 h9 hJR2
    go_wp2_with fail
    obtain ⟨wF, hwF, hgF, hkF⟩ := set5_facts hB3 (.int .i64 (L : Int)) (.int .i64 (ac.length : Int)) (.slice A5 (accIdx ac).length d5) (.slice A6 (plLv lf).length d6) (.slice A7 (plBr L ac.length t).length d7)
    change bodyPost _ _ _ _ _ (set5 w3 w.heap.size (.int .i64 (L : Int)) (.int .i64 (ac.length : Int)) (.slice A5 (accIdx ac).length d5) (.slice A6 (plLv lf).length d6) (.slice A7 (plBr L ac.length t).length d7))
    rw [hwF]
    have hcF := hgF.cell
    have hne : ∀ e, e ≠ 26 → ∀ g cs, g = w.heap.size → ¬ Blk w3 g e cs := fun e he g cs eg hb => by subst eg; exact hB3.ne_ hb (fun h => he h.symm) rfl
    refine bodyPost_ret (v := .tuple #[.agg #[.int .i64 (L : Int), .int .i64 (ac.length : Int), .slice A5 (accIdx ac).length d5, .slice A6 (plLv lf).length d6, .slice A7 (plBr L ac.length t).length d7], .int .i64 0]) (by simp [results, Try.results34, go_sem, hcF]) rfl
      ⟨hH03.out.trans (hkF.below hH03.out.size (fun b hb e => by omega)), .inr (.inr ⟨e1.out, e2.out, e3.out, s, _, L, ac, lf, t, e4.out, h5, rfl, e6.out, ⟨_, _, _, rfl, ?_, ?_, ?_⟩, e7.out, h8, e9.out⟩)⟩
    · exact own_weak (own_ty hkF ho1 (hne 3 (by decide))) hz2.out
    · exact own_weak (own_ty hkF ho2 (hne 36 (by decide))) hz2.out
    · exact own_weak (own_ty hkF ho3 (hne 59 (by decide))) hz2.out

set_option maxHeartbeats 8000000 in
set_option maxRecDepth 100000 in
theorem inter_any {w : World} {c : Nat} {A : Option Addr} {l : List TA} (h : TAs w w.heap.size A l) (hbr : ∀ a ∈ l, a.branches.length ≤ 900000) (hl6 : l.length ≤ 1000) :
    Calls Try.prog 36 #[.slice A l.length c] w (Ret fun r w' => Below w.heap.size w w' ∧ JoinR w' w.heap.size (fun a b => a && b) l r) := by
  obtain ⟨w1, hw1, hb1, hB1, hk1⟩ := box_blk w #[.int .i64 0, .int .i64 0, .slice none 0 0, .slice none 0 0, .slice none 0 0] 26
  have z1 := hide hb1.size
  have hH1 := hide hb1
  have hHS := hide (h.keep (fun _ hp => hb1.cell hp) hb1.size)
  clear h hb1
  go_enter Try.func36, Try.ntmps36
  go_wp2_with fail
  refine Calls.ret (op_any (f := 64) (j := 87) (.inr (.inl ⟨rfl, rfl⟩)) w1) ?_
  rintro v w2 ⟨rfl, hb2⟩
  have hB2 := hB1.kept (Kept.of_below hb2 (fun _ => False)) id
  have hH02 := hide (hH1.out.trans (hb2.mono z1.out))
  have hS2 := hide (hHS.out.keep (fun _ hp => hb2.cell hp) hb2.size)
  clear hb2
  go_wp2_with fail
  refine Calls.ret (joined_any (j := fun a b => a && b) hS2.out (.inr (.inl ⟨rfl, rfl⟩)) hbr hl6) ?_
  rintro v w3 ⟨hb3, hJR⟩
  have hB3 := hB2.kept (Kept.of_below hb3 (fun _ => False)) id
  have hc3 := hB3.cell
  have hf3 := hB3.frozen
  have hl3 := hB3.lt
  have hH03 := hide (hH02.out.trans (hb3.mono hH02.out.size))
  have hz2 := hide hH02.out.size
  clear hb3
  have hJR2 := hide hJR
  rcases hJR with ⟨h1, rfl⟩ | ⟨h1, h2, h3, rfl⟩ | ⟨h1, h2, h3, s, v, L, ac, lf, t, h4, h5, rfl, h6, ⟨va, vl, vb, rfl, ho1, ho2, ho3⟩, h7, h8, h9⟩
  · have e1 := hide h1
    unfold zeroTA
    clear h1 hJR2
    go_wp2_with fail
    obtain ⟨wF, hwF, hgF, hkF⟩ := set5_facts hB3 (.int .i64 0) (.int .i64 0) (.slice none 0 0) (.slice none 0 0) (.slice none 0 0)
    change bodyPost _ _ _ _ _ (set5 w3 w.heap.size (.int .i64 0) (.int .i64 0) (.slice none 0 0) (.slice none 0 0) (.slice none 0 0))
    rw [hwF]
    have hcF := hgF.cell
    exact bodyPost_ret (v := .tuple #[zeroTA, .int .i64 1]) (by simp [results, Try.results36, go_sem, hcF, zeroTA]) rfl ⟨hH03.out.trans (hkF.below hH03.out.size (fun b hb e => by omega)), .inl ⟨e1.out, rfl⟩⟩
  · have e1 := hide h1
    have e2 := hide h2
    have e3 := hide h3
    unfold zeroTA
    clear h1 h2 h3 hJR2
    go_wp2_with fail
    obtain ⟨wF, hwF, hgF, hkF⟩ := set5_facts hB3 (.int .i64 0) (.int .i64 0) (.slice none 0 0) (.slice none 0 0) (.slice none 0 0)
    change bodyPost _ _ _ _ _ (set5 w3 w.heap.size (.int .i64 0) (.int .i64 0) (.slice none 0 0) (.slice none 0 0) (.slice none 0 0))
    rw [hwF]
    have hcF := hgF.cell
    exact bodyPost_ret (v := .tuple #[zeroTA, .int .i64 4]) (by simp [results, Try.results36, go_sem, hcF, zeroTA]) rfl ⟨hH03.out.trans (hkF.below hH03.out.size (fun b hb e => by omega)), .inr (.inl ⟨e1.out, e2.out, e3.out, rfl⟩)⟩
  · have e1 := hide h1
    have e2 := hide h2
    have e3 := hide h3
    have e4 := hide h4
    have e6 := hide h6
    have e7 := hide h7
    have e9 := hide h9
    obtain ⟨A5, d5, rfl⟩ := slice_of_own ho1
    obtain ⟨A6, d6, rfl⟩ := slice_of_own ho2
    obtain ⟨A7, d7, rfl⟩ := slice_of_own ho3
    clear h1 h2 h3 h4 h6 h7 h9 hJR2
    go_wp2_with fail
    obtain ⟨wF, hwF, hgF, hkF⟩ := set5_facts hB3 (.int .i64 (L : Int)) (.int .i64 (ac.length : Int)) (.slice A5 (accIdx ac).length d5) (.slice A6 (plLv lf).length d6) (.slice A7 (plBr L ac.length t).length d7)
    change bodyPost _ _ _ _ _ (set5 w3 w.heap.size (.int .i64 (L : Int)) (.int .i64 (ac.length : Int)) (.slice A5 (accIdx ac).length d5) (.slice A6 (plLv lf).length d6) (.slice A7 (plBr L ac.length t).length d7))
    rw [hwF]
    have hcF := hgF.cell
    have hne : ∀ e, e ≠ 26 → ∀ g cs, g = w.heap.size → ¬ Blk w3 g e cs := fun e he g cs eg hb => by subst eg; exact hB3.ne_ hb (fun h => he h.symm) rfl
    refine bodyPost_ret (v := .tuple #[.agg #[.int .i64 (L : Int), .int .i64 (ac.length : Int), .slice A5 (accIdx ac).length d5, .slice A6 (plLv lf).length d6, .slice A7 (plBr L ac.length t).length d7], .int .i64 0]) (by simp [results, Try.results36, go_sem, hcF]) rfl
      ⟨hH03.out.trans (hkF.below hH03.out.size (fun b hb e => by omega)), .inr (.inr ⟨e1.out, e2.out, e3.out, s, _, L, ac, lf, t, e4.out, h5, rfl, e6.out, ⟨_, _, _, rfl, ?_, ?_, ?_⟩, e7.out, h8, e9.out⟩)⟩
    · exact own_weak (own_ty hkF ho1 (hne 3 (by decide))) hz2.out
    · exact own_weak (own_ty hkF ho2 (hne 36 (by decide))) hz2.out
    · exact own_weak (own_ty hkF ho3 (hne 59 (by decide))) hz2.out
end Go.Proofs.Ytnimlcbgeiajiaa
