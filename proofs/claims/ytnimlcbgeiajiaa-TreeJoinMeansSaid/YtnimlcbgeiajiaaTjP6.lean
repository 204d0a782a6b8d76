/-
  tree.Accepts: the walk.
  The canonical automaton as an automaton: it is valid, has the same language, is not large, and is its own canonical automaton. Plain Lean, and its memory.
  tree.joined: the walk.
  tree.Union, tree.Intersect: the walks.
  The reference's Validate: the walk; what it answers is the function TA.valid of the automaton's data.
  CompareInts, SameInts and SameAutomaton at equal data, and small: the walks.
  The reference's ValidTree with IsShape: the walks.
  The reference's accepts: marks and words say the same (plain), and the walk.
  The reference's accepts and Accepts: the walks.
  The reference's Accepts, long, and the law TreeAccepts: the walks.
  The law TreeJoinMeans: the walk.
  The law TreeJoinMeans: the walk.
  TreeValidates: the walk of the law.
  Arguments that come in: an automaton by value reads as data; what a law leaves behind.
  TreeValidates: for every automaton, the program's Validate and the document's give the same error, and the program knows its small tree and automaton. No condition.
  A shape with labels that comes in.
-/
import Derived.ProofKit
import Derived.Deep.Slices
import Derived.Deep.Fields
import Derived.Test.YtnimlcbgeiajiaaTjP5

namespace Go.Proofs.Ytnimlcbgeiajiaa
open Go.RowKit

def accT (a : TA) (sh lb : List Int) : Value := if a.valid && validT a.letters sh lb then .tuple #[.bool (a.lang (treeOf sh lb)), .int .i64 0] else .tuple #[.bool false, .int .i64 1]

theorem stk_nil_at {sh lb : List Int} {i : Nat} (h : sh.length ≤ i) : stk (sh.drop i) (lb.drop i) = some [] := by
  rw [List.drop_eq_nil_of_le h]
  simp [stk]
theorem masks_get {a : TA} {t1 t2 : Tr} {r : List Tr} : (masks a (t1 :: t2 :: r))[r.length]? = some (.int .u64 (a.mask t2 : Int)) ∧ (masks a (t1 :: t2 :: r))[r.length + 1]? = some (.int .u64 (a.mask t1 : Int)) := by
  rw [masks_two]
  constructor
  · rw [List.getElem?_append_right (by rw [masks_len]; omega), masks_len, Nat.sub_self]; rfl
  · rw [List.getElem?_append_right (by rw [masks_len]; omega), masks_len, Nat.add_sub_cancel_left]; rfl
theorem masks_take {a : TA} {t1 t2 : Tr} {r : List Tr} : (masks a (t1 :: t2 :: r)).take (r.length * 1) = masks a r := by
  rw [masks_two, Nat.mul_one, List.take_append_of_le_length (by rw [masks_len]; omega), List.take_of_length_le (by rw [masks_len]; omega)]
theorem TA.valid_parts {a : TA} (h : a.valid = true) : 1 ≤ a.letters ∧ a.letters ≤ 8 ∧ 0 ≤ a.states ∧ a.states ≤ 64 ∧ a.accept.all (inR · 0 a.states) = true ∧ (∀ q ∈ a.accept, 0 ≤ q ∧ q < 64) ∧ (∀ e ∈ a.leaves, e.to < 64) ∧ (∀ e ∈ a.branches, e.to < 64) := by
  simp only [TA.valid, TA.head, Bool.and_eq_true, decide_eq_true_eq] at h
  obtain ⟨⟨⟨⟨⟨⟨h1, h2⟩, h3⟩, h4⟩, h5⟩, h6⟩, h7⟩ := h
  refine ⟨h1, h2, h3, h4, h5, fun q hq => ?_, fun e he => ?_, fun e he => ?_⟩
  · have := List.all_eq_true.1 h5 q hq
    simp only [inR, Bool.and_eq_true, decide_eq_true_eq] at this
    omega
  · have := List.all_eq_true.1 h6 e he
    simp only [okLeaf, inR, Bool.and_eq_true, decide_eq_true_eq] at this
    omega
  · have := List.all_eq_true.1 h7 e he
    simp only [okBranch, inR, Bool.and_eq_true, decide_eq_true_eq] at this
    omega
theorem TA.mask_u64 {a : TA} (h : a.valid = true) (t : Tr) : U64 (a.mask t) := by
  obtain ⟨-, -, -, -, -, -, h1, h2⟩ := TA.valid_parts h
  cases t with
  | leaf x => exact U64.leafM h1
  | node x s t => exact U64.brM fun e he => h2 e (List.mem_filter.1 he).1

theorem own_cap {w : World} {base size n c : Nat} {e : TypeId} {g : Addr} {xs : List Value} (h : w.ownsRow base e size (.slice (some g) n c) n xs) : n ≤ c := by
  rcases h.2 with ⟨h1, _⟩ | ⟨g', cap', cur, hv, _, _, hc, _⟩
  · cases h1
  · injection hv with _ _ hv
    omega
set_option maxHeartbeats 8000000 in
set_option maxRecDepth 100000 in
theorem accepts_any {v : Value} {a : TA} {w : World} {B1 B2 c1' c2' : Nat} {D1 D2 : Option Addr} {sh lb : List Int} (h : IsTA w w.heap.size v a) (hs : Sl w B1 1 encI D1 sh) (hl : Sl w B2 1 encI D2 lb) (hB1 : B1 ≤ w.heap.size) (hB2 : B2 ≤ w.heap.size) :
    Calls Try.prog 28 #[v, .slice D1 sh.length c1', .slice D2 lb.length c2'] w (Ret fun r w' => r = accT a sh lb ∧ Below w.heap.size w w') := by
  have hIn := h
  obtain ⟨A1, c1, A2, c2, A3, c3, rfl, h1, h2, h3⟩ := h
  obtain ⟨w1, hw1, hb1, hB, hk1⟩ := box_blk w #[.int .i64 a.letters, .int .i64 a.states, .slice A1 a.accept.length c1, .slice A2 a.leaves.length c2, .slice A3 a.branches.length c3] 26
  have hcb := hB.cell
  have hsz := hb1.size
  have hT : IsTA w1 w1.heap.size (.agg #[.int .i64 a.letters, .int .i64 a.states, .slice A1 a.accept.length c1, .slice A2 a.leaves.length c2, .slice A3 a.branches.length c3]) a :=
    ⟨A1, c1, A2, c2, A3, c3, rfl, (h1.below hb1).mono hsz, (h2.below hb1).mono hsz, (h3.below hb1).mono hsz⟩
  have hHB := hide hB
  have hHT := hide hT
  have hn1 := h1.1
  have hns := hs.1
  have hnl := hl.1
  clear hT
  cases hv : a.valid
  · have hV := hide hv
    clear hv
    have he : Hid (accT a sh lb = .tuple #[.bool false, .int .i64 1]) := by show _ = _; simp [accT, hV.out]
    go_enter Try.func28, Try.ntmps28
    go_wp2_with (go_at_call 18; refine (validate_any _ _ _ hHT.out).mono ?_; rintro e w' ⟨rfl, hb⟩; rw [hV.out]; simp only [errno]; have hb2 := hide hb; clear hb)
    go_ret2
    exact ⟨he.out.symm, hb1.trans (hb2.out.mono hsz)⟩
  · have hV := hide hv
    clear hv
    cases hvt : validT a.letters sh lb
    · have hVT := hide hvt
      clear hvt
      have he : Hid (accT a sh lb = .tuple #[.bool false, .int .i64 1]) := by show _ = _; simp [accT, hVT.out]
      go_enter Try.func28, Try.ntmps28
      go_wp2_with (first | (go_at_call 18; refine (validate_any _ _ _ hHT.out).mono ?_; rintro e w2 ⟨rfl, hb⟩; rw [hV.out]; simp only [errno]; have hb2 := hide hb; have hcb2 := (hB.kept (Kept.of_below hb (fun _ => False)) id).cell; have hs2 := hide ((hs.mono hB1).below (hb1.trans (hb.mono hsz))); have hl2 := hide ((hl.mono hB2).below (hb1.trans (hb.mono hsz))); clear hb) | (go_at_call 42; refine (validTree_any hs2.out hl2.out).mono ?_; rintro e w3 ⟨rfl, rfl⟩; rw [hVT.out]))
      go_ret2
      exact ⟨he.out.symm, hb1.trans (hb2.out.mono hsz)⟩
    · obtain ⟨hst, hok, hlen, hn1', hn2'⟩ := validT_tree hvt
      have hgo : vtGo a.letters 1 sh lb = true := by
        simp only [validT, Bool.and_eq_true] at hvt
        exact hvt.2
      have hVT := hide hvt
      have hST := hide hst
      have hGO := hide hgo
      have hLEN := hide hlen
      clear hvt hst hgo hlen
      obtain ⟨hL1, hL8, hS0, hS64, -, hacc, -, -⟩ := TA.valid_parts hV.out
      have hACC := hide hacc
      clear hacc
      go_enter Try.func28, Try.ntmps28
      go_wp2_with (first | (go_at_call 18; refine (validate_any _ _ _ hHT.out).mono ?_; rintro e w2 ⟨rfl, hb⟩; rw [hV.out]; simp only [errno]; have hb2 := hide hb; have hcb2 := (hB.kept (Kept.of_below hb (fun _ => False)) id).cell; have hs2 := hide ((hs.mono hB1).below (hb1.trans (hb.mono hsz))); have hl2 := hide ((hl.mono hB2).below (hb1.trans (hb.mono hsz))); clear hb) | (go_at_call 42; refine (validTree_any hs2.out hl2.out).mono ?_; rintro e w3 ⟨rfl, rfl⟩; rw [hVT.out]))
      have hW2 := hb2.out
      clear hs2 hl2 hcb2 hcb
      go_loopw [9, 10] (fun kk ii wr => ∃ (i : Nat) (s : List Tr), ii = .int .i64 ((i : Int) - 1) ∧ i ≤ sh.length ∧ Hid (stk (sh.drop i) (lb.drop i) = some s) ∧ Hid (wr.ownsRow w1.heap.size 70 1 kk s.length (masks a s)) ∧ Hid (i + s.length ≤ sh.length + 1) ∧ Below w1.heap.size w1 wr) (fun _ ii _ => (intOf ii + 1).toNat)
      case atStart => exact ⟨sh.length, [], rfl, Nat.le_refl _, stk_nil_at (Nat.le_refl _), own_nil, Nat.le_succ _, hW2⟩
      case round =>
        obtain ⟨i, s, rfl, hi, hs3, hown, hsl, hbr⟩ := hrel
        have hBr := hB.kept (Kept.of_below hbr (fun _ => False)) id
        have hcbr := hBr.cell
        have hszr := hbr.size
        obtain ⟨A, c, rfl⟩ := slice_of_own hown.out
        by_cases hlt : 0 < i
        · obtain ⟨k, rfl⟩ : ∃ k, i = k + 1 := ⟨i - 1, by omega⟩
          rw [show (((k + 1 : Nat) : Int) - 1) = (k : Int) from by omega]
          obtain ⟨cd, l, s', hc, hl', hl0, hs', hcase⟩ := stk_at sh lb 1 (by omega) hGO.out k (by omega)
          have hss : s' = s := by
            have := hs3.out
            rw [hs'] at this
            exact Option.some.inj this
          subst hss
          obtain ⟨x, rfl⟩ := Int.eq_ofNat_of_zero_le hl0
          simp only [Int.toNat_natCast] at hcase
          obtain ⟨b1, o1, c', rfl, hb1', hc', hcc⟩ := hs.at (k := k) (by omega)
          obtain ⟨b2, o2, l', rfl, hb2', hl'', hlc⟩ := hl.at (k := k) (by rw [hLEN.out]; omega)
          rw [hc] at hc'
          rw [hl'] at hl''
          injection hc' with hc'
          injection hl'' with hl''
          subst hc' hl''
          have hc0 := (hbr.cell (by show b1 < _; omega)).trans ((hb1.cell (by show b1 < _; omega)).trans (hcc 0 (by omega)))
          have hl0' := (hbr.cell (by show b2 < _; omega)).trans ((hb1.cell (by show b2 < _; omega)).trans (hlc 0 (by omega)))
          simp only [Nat.mul_one, Nat.add_zero, encI] at hc0 hl0'
          have hTr : IsTA wr.drew wr.drew.heap.size (.agg #[.int .i64 a.letters, .int .i64 a.states, .slice A1 a.accept.length c1, .slice A2 a.leaves.length c2, .slice A3 a.branches.length c3]) a := hHT.out.keep (fun _ hp => hbr.drew.cell hp) hszr
          have hTR := hide hTr
          have hownd := hide ((Kept.refl wr (fun _ => False)).drew.ownsRow hown.out (fun _ _ => id))
          have hszd : wr.drew.heap.size = wr.heap.size := rfl
          have hkl := hLEN.out
          have hKL := hide hkl
          have hklb : k < lb.length := by omega
          clear hc hl' hs' hcc hlc hl0 hTr hs3 hkl
          have hcount := hsl.out
          rcases hcase with ⟨rfl, hnext⟩ | ⟨rfl, t1, t2, r, rfl, hnext⟩
          · have hNX := hide hnext
            clear hnext
            go_wp2_with fail
            refine Reg.region_plain [0, 0, 0, 6, 14, 31, 63] (by kernel_rfl) (by repeat (first | exact Reg.NoQ.body (fun _ _ h => h) (fun _ h => h) | refine Reg.NoQ.then ?_ | refine Reg.NoQ.inBlock ?_)) ?_
            go_wp2_with (first | (go_at_call 53; refine Calls.ret (leafSet_any _ a _ x hTR.out hV.out) ?_; rintro v w3 ⟨rfl, hU, hb3⟩; have hU3 := hide hU; have hb33 := hide hb3; have hsz3 := hb3.size; have hbase3 : w1.heap.size ≤ w3.heap.size := by omega
                                  have hown3 := (Kept.of_below hb3 (fun _ => False)).ownsRow hownd.out (fun _ _ => id); clear hU hb3) | (at_builtin; refine wpList_app_new row69 rfl _ _ rfl w1.heap.size (.slice A s'.length c) s'.length _ rfl hown3 [.int .u64 (a.leafS x : Int)] 1 rfl rfl (by simp [Value.oneCell']) (by omega) hbase3 ?_; intro g cap' w4 hown4 hk4 hmv4 hg4))
            refine ⟨⟨k, .leaf x :: s', by go_num, by omega, hNX.out, ?_, by show _ ≤ _; simp; omega, ?_⟩, by simp [intOf]⟩
            · show World.ownsRow _ _ _ _ _ _ _
              rw [masks_cons]
              exact hown4
            · refine (hbr.drew.trans (hb33.out.mono hszr)).trans (hk4.below hbase3 (fun b hb e => ?_))
              have := own_base hown3 e
              omega
          · have hNX := hide hnext
            clear hnext
            simp only [List.length_cons] at *
            have hg1 := hide (own_get hown.out (masks_get (a := a) (t1 := t1) (t2 := t2) (r := r)).1)
            have hg2 := hide (own_get hown.out (masks_get (a := a) (t1 := t1) (t2 := t2) (r := r)).2)
            obtain ⟨g, cap, hv1, hcl1⟩ := hg1.out
            obtain ⟨g', cap', hv2, hcl2⟩ := hg2.out
            injection hv1 with hv1 _ hv1c
            injection hv2 with hv2 _ hv2c
            subst hv1 hv1c hv2c
            injection hv2 with hv2
            injection hv2 with hv2
            subst hv2
            have hcap := own_cap hown.out
            clear hg1 hg2
            have hU1 := TA.mask_u64 hV.out t1
            have hU2 := TA.mask_u64 hV.out t2
            go_wp2_with fail
            refine Reg.region_ints' [0, 0, 0, 6, 14, 0, 0, 64, 224, 480, 0, 0, 2048, 7168, 15360, 32767, 65535] (by kernel_rfl) (by repeat (first | exact Reg.NoQ.body (fun _ _ h => h) (fun _ h => h) | refine Reg.NoQ.then ?_ | refine Reg.NoQ.inBlock ?_)) ?_
            intro Qf hQf
            go_wp2_with (go_at_call 54; refine Calls.ret (branchSet_any _ a _ x (a.mask t1) (a.mask t2) hTR.out hV.out hU1 hU2) ?_; rintro v w3 ⟨rfl, hU, hb3⟩; have hU3 := hide hU; have hb33 := hide hb3; have hsz3 := hb3.size; have hbase3 : w1.heap.size ≤ w3.heap.size := by omega
                         have hown3 := (Kept.of_below hb3 (fun _ => False)).ownsRow hownd.out (fun _ _ => id); clear hU hb3)
            refine ⟨rfl, ?_⟩
            have hown5 := own_shrink (m := r.length) hown3 (by omega)
            rw [masks_take] at hown5
            go_wp2_with (at_builtin; refine wpList_app_new row69 rfl _ _ rfl w1.heap.size (.slice (some ⟨g, 0, none⟩) r.length c) r.length _ rfl hown5 [.int .u64 (a.brS x (a.mask t1) (a.mask t2) : Int)] 1 rfl rfl (by simp [Value.oneCell']) (by omega) hbase3 ?_; intro g2 cap' w4 hown4 hk4 hmv4 hg4)
            refine ⟨⟨k, .node x t1 t2 :: r, by go_num, by omega, hNX.out, ?_, by show _ ≤ _; simp; omega, ?_⟩, by simp [intOf]⟩
            · show World.ownsRow _ _ _ _ _ _ _
              rw [masks_cons]
              exact hown4
            · refine (hbr.drew.trans (hb33.out.mono hszr)).trans (hk4.below hbase3 (fun b hb e => ?_))
              have := own_base hown5 e
              omega
        · have hi0 : i = 0 := by omega
          subst hi0
          rw [show (((0 : Nat) : Int) - 1) = -1 from rfl]
          have hs4 : s = [treeOf sh lb] := by
            have := hs3.out
            rw [List.drop_zero, List.drop_zero, hST.out] at this
            exact (Option.some.inj this).symm
          subst hs4
          obtain ⟨g, cap, hv1, hcl⟩ := own_get (k := 0) hown.out (u := .int .u64 (a.mask (treeOf sh lb) : Int)) (by simp [masks])
          injection hv1 with hv1 _ hv1c
          subst hv1 hv1c
          have hU := TA.mask_u64 hV.out (treeOf sh lb)
          have hfin : Hid (accT a sh lb = .tuple #[.bool (a.accept.any (mBit (a.mask (treeOf sh lb)))), .int .i64 0]) := by
            show _ = _
            have : a.lang (treeOf sh lb) = a.accept.any (mBit (a.mask (treeOf sh lb))) := accS_any a _ fun q hq => (hACC.out q hq).1
            simp [accT, hV.out, hVT.out, this]
          have hbW := hide (hb1.trans (hbr.mono hsz))
          clear hs3 hown hsl
          go_wp2_with fail
          go_loop [73] (fun jj => ∃ (j : Nat), jj = .int .i64 (j : Int) ∧ j ≤ a.accept.length ∧ Hid (∀ j', j' < j → ∀ q, a.accept[j']? = some q → mBit (a.mask (treeOf sh lb)) q = false)) (fun jj => a.accept.length - (intOf jj).toNat)
          case atStart => exact ⟨0, rfl, Nat.zero_le _, fun j hj => absurd hj (by omega)⟩
          case round =>
            obtain ⟨j, rfl, hj, hE⟩ := hrel
            by_cases hlt2 : j < a.accept.length
            · obtain ⟨b, off, q, rfl, hbb, hx, hc⟩ := h1.at hlt2
              have hc0 := (hbW.out.cell (by exact hbb)).trans (hc 0 (by omega))
              simp only [Nat.mul_one, Nat.add_zero, encI] at hc0
              obtain ⟨hq0, hq1⟩ := hACC.out q (List.mem_of_getElem? hx)
              have hX := hide hx
              clear hx hc
              cases hbt : mBit (a.mask (treeOf sh lb)) q
              · have hBT := hide hbt
                go_wp2_with fail
                refine ⟨⟨j + 1, by go_num, by omega, fun j' hj' q' hq' => ?_⟩, by simp [intOf]; omega⟩
                by_cases hjk : j' = j
                · subst hjk
                  rw [hX.out] at hq'
                  injection hq' with hq'
                  subst hq'
                  exact hBT.out
                · exact hE.out j' (by omega) q' hq'
              · have hBT := hide hbt
                go_wp2_with fail
                go_ret2
                refine ⟨?_, hbW.out⟩
                have : a.accept.any (mBit (a.mask (treeOf sh lb))) = true := List.any_eq_true.2 ⟨_, List.mem_of_getElem? hX.out, hBT.out⟩
                rw [hfin.out, this]
                rfl
            · go_wp2_with fail
              go_ret2
              refine ⟨?_, hbW.out⟩
              have : a.accept.any (mBit (a.mask (treeOf sh lb))) = false := List.any_eq_false.2 fun q hq => by
                obtain ⟨j', hj'⟩ := List.mem_iff_getElem?.1 hq
                rw [hE.out j' (by have := lt_of_get hj'; omega) q hj']
                simp
              rw [hfin.out, this]
              rfl
end Go.Proofs.Ytnimlcbgeiajiaa

namespace Go.Proofs.Ytnimlcbgeiajiaa
open Go.RowKit

theorem tb_fold {A : Type} {f : A → Int} {c : A → Bool} (r : Nat) : ∀ (l : List A) (m : Nat), (l.foldl (fun m e => if c e = true then setB m (f e) else m) m).testBit r = (m.testBit r || l.any fun e => c e && decide ((f e).toNat = r))
  | [], m => by simp
  | e :: l, m => by
    rw [List.foldl_cons, tb_fold r l, List.any_cons, ← Bool.or_assoc]
    congr 1
    cases hc : c e
    · simp
    · simp [setB, mOr, mPow, Nat.testBit_or, Nat.testBit_two_pow]

theorem mem_plLv {lf : List Nat} {e : Leaf} : e ∈ plLv lf ↔ ∃ x, x < lf.length ∧ e = ⟨(x : Int), (mleaf lf x : Int)⟩ := by
  simp only [plLv, List.mem_map, List.mem_range]
  constructor
  · rintro ⟨x, hx, rfl⟩; exact ⟨x, hx, rfl⟩
  · rintro ⟨x, hx, rfl⟩; exact ⟨x, hx, rfl⟩
theorem mem_plBr {L n : Nat} {t : List (List (List Nat))} {e : Branch} : e ∈ plBr L n t ↔ ∃ x i j, x < L ∧ i < n ∧ j < n ∧ e = ⟨(x : Int), (i : Int), (j : Int), (mbr t x i j : Int)⟩ := by
  simp only [plBr, List.mem_flatMap, List.mem_map, List.mem_range]
  constructor
  · rintro ⟨x, hx, i, hi, j, hj, rfl⟩; exact ⟨x, i, j, hx, hi, hj, rfl⟩
  · rintro ⟨x, i, j, hx, hi, hj, rfl⟩; exact ⟨x, hx, i, hi, j, hj, rfl⟩
theorem mem_accIdx {ac : List Bool} {i : Nat} : i ∈ accIdx ac ↔ i < ac.length ∧ macc ac i = true := by simp [accIdx, List.mem_filter]

section
variable {L : Nat} {ac : List Bool} {lf : List Nat} {t : List (List (List Nat))}
theorem plain_valid (h : MOK L ac lf t) (h1 : 1 ≤ L) (h8 : L ≤ 8) (hn : ac.length ≤ 64) : (plainA L ac lf t).valid = true := by
  simp only [TA.valid, TA.head, plainA, Bool.and_eq_true]
  refine ⟨⟨⟨⟨⟨⟨decide_eq_true (by omega), decide_eq_true (by omega)⟩, decide_eq_true (by omega)⟩, decide_eq_true (by omega)⟩, ?_⟩, ?_⟩, ?_⟩
  · rw [List.all_eq_true]
    intro q hq
    obtain ⟨i, hi, rfl⟩ := List.mem_map.1 hq
    have := (mem_accIdx.1 hi).1
    simp [inR]; omega
  · rw [List.all_eq_true]
    intro e he
    obtain ⟨x, hx, rfl⟩ := mem_plLv.1 he
    rw [h.lfl] at hx
    have := h.isM.leaf_lt x hx
    simp [okLeaf, inR]; omega
  · rw [List.all_eq_true]
    intro e he
    obtain ⟨x, i, j, hx, hi, hj, rfl⟩ := mem_plBr.1 he
    have := h.isM.br_lt x i j hx hi hj
    simp [okBranch, inR]; omega
theorem plain_leaf (h : MOK L ac lf t) {x : Nat} (hx : x < L) : (plainA L ac lf t).leafS x = 2 ^ mleaf lf x := by
  apply Nat.eq_of_testBit_eq
  intro r
  show (leafM (plLv lf) x).testBit r = _
  have := tb_fold (f := fun e : Leaf => e.to) (c := fun e => decide (e.letter = (x : Int))) r (plLv lf) 0
  simp only [decide_eq_true_eq] at this
  unfold leafM
  rw [this, Nat.testBit_two_pow, Nat.zero_testBit, Bool.false_or, Bool.eq_iff_iff, List.any_eq_true, decide_eq_true_eq]
  constructor
  · rintro ⟨e, he, h2⟩
    obtain ⟨x', -, rfl⟩ := mem_plLv.1 he
    simp at h2
    obtain ⟨h4, h3⟩ := h2
    obtain rfl : x' = x := by omega
    exact h3
  · rintro rfl
    exact ⟨_, mem_plLv.2 ⟨x, by rw [h.lfl]; exact hx, rfl⟩, by simp⟩
theorem plain_br {x p q : Nat} (hx : x < L) (hp : p < ac.length) (hq : q < ac.length) : (plainA L ac lf t).brS x (2 ^ p) (2 ^ q) = 2 ^ mbr t x p q := by
  apply Nat.eq_of_testBit_eq
  intro r
  show (brM (2 ^ p) (2 ^ q) (byL (plBr L ac.length t) x)).testBit r = _
  have := tb_fold (f := fun e : Branch => e.to) (c := fun e => mBit (2 ^ p) e.first && mBit (2 ^ q) e.second) r (byL (plBr L ac.length t) x) 0
  unfold brM
  rw [this, Nat.testBit_two_pow, Nat.zero_testBit, Bool.false_or, Bool.eq_iff_iff, List.any_eq_true, decide_eq_true_eq]
  constructor
  · rintro ⟨e, he, h2⟩
    obtain ⟨he, hl⟩ := List.mem_filter.1 he
    obtain ⟨x', i, j, -, -, -, rfl⟩ := mem_plBr.1 he
    simp [mBit, Nat.testBit_two_pow] at h2 hl
    obtain ⟨⟨rfl, rfl⟩, h3⟩ := h2
    obtain rfl : x' = x := by omega
    exact h3
  · rintro rfl
    exact ⟨_, List.mem_filter.2 ⟨mem_plBr.2 ⟨x, p, q, hx, hp, hq, rfl⟩, by simp⟩, by simp [mBit]⟩
theorem plain_mask (h : MOK L ac lf t) : ∀ tr : Tr, tr.ok L → (plainA L ac lf t).mask tr = 2 ^ runT (mleaf lf) (mbr t) tr
  | .leaf _, hx => plain_leaf h hx
  | .node x a b, hx => by
    show (plainA L ac lf t).brS x ((plainA L ac lf t).mask a) ((plainA L ac lf t).mask b) = _
    rw [plain_mask h a hx.2.1, plain_mask h b hx.2.2]
    exact plain_br hx.1 (h.isM.run_lt a hx.2.1) (h.isM.run_lt b hx.2.2)
theorem plain_lang (h : MOK L ac lf t) (tr : Tr) (ht : tr.ok L) : (plainA L ac lf t).lang tr = macc ac (runT (mleaf lf) (mbr t) tr) := by
  show (plainA L ac lf t).accS ((plainA L ac lf t).mask tr) = _
  have hlt := h.isM.run_lt tr ht
  rw [plain_mask h tr ht, accS_any _ _ (fun q hq => by
    obtain ⟨i, -, rfl⟩ := List.mem_map.1 hq
    omega), Bool.eq_iff_iff, List.any_eq_true]
  constructor
  · rintro ⟨q, hq, h2⟩
    obtain ⟨i, hi, rfl⟩ := List.mem_map.1 hq
    simp [mBit, Nat.testBit_two_pow] at h2
    subst h2
    exact (mem_accIdx.1 hi).2
  · intro h2
    exact ⟨_, List.mem_map.2 ⟨_, mem_accIdx.2 ⟨hlt, h2⟩, rfl⟩, by simp [mBit]⟩
theorem nodup_le : ∀ (n : Nat) (l : List Nat), l.Nodup → (∀ x ∈ l, ∃ p, p < n ∧ x = 2 ^ p) → l.length ≤ n
  | 0, l, _, h => by
    cases l with
    | nil => simp
    | cons x l =>
      obtain ⟨p, hp, -⟩ := h x List.mem_cons_self
      omega
  | n + 1, l, hn, h => by
    have h1 := nodup_le n (l.erase (2 ^ n)) (hn.erase _) (fun x hx => by
      have hx2 := (hn.mem_erase_iff).1 hx
      obtain ⟨p, hp, e⟩ := h x hx2.2
      refine ⟨p, ?_, e⟩
      have : p ≠ n := fun e2 => hx2.1 (by rw [e, e2])
      omega)
    rw [List.length_erase] at h1
    split at h1 <;> omega
theorem plain_small (h : MOK L ac lf t) (hn : ac.length ≤ 64) : ¬ (plainA L ac lf t).Large := by
  rintro ⟨l, hnd, hr, hlen⟩
  have := nodup_le ac.length l hnd fun s hs => by
    obtain ⟨tr, htr, rfl⟩ := reach_run.1 (hr s hs)
    have htr' : tr.ok L := by simpa [plainA] using htr
    exact ⟨_, h.isM.run_lt tr htr', plain_mask h tr htr'⟩
  omega
end

theorem flatMap_same {A B : Type} {l : List A} {f g : A → List B} (h : ∀ x ∈ l, f x = g x) : l.flatMap f = l.flatMap g := by
  induction l with
  | nil => rfl
  | cons x l ih => rw [List.flatMap_cons, List.flatMap_cons, h x List.mem_cons_self, ih fun y hy => h y (List.mem_cons_of_mem _ hy)]
theorem plain_same {L : Nat} {ac ac' : List Bool} {lf lf' : List Nat} {t t' : List (List (List Nat))} {Λ Λ' : Tr → Bool} (h : MOK L ac lf t) (h' : MOK L ac' lf' t') (hc : Canon L ac.length (mleaf lf) (mbr t) (macc ac) Λ)
    (hc' : Canon L ac'.length (mleaf lf') (mbr t') (macc ac') Λ') (hΛ : ∀ tr : Tr, tr.ok L → Λ tr = Λ' tr) : plainA L ac' lf' t' = plainA L ac lf t := by
  obtain ⟨hn, h1, h2, h3⟩ := Canon.unique hc hc' hΛ
  have e1 : accIdx ac' = accIdx ac := by
    unfold accIdx
    rw [← hn]
    exact List.filter_congr fun x hx => (h3 x (List.mem_range.1 hx)).symm
  have e2 : plLv lf' = plLv lf := by
    unfold plLv
    rw [h.lfl, h'.lfl]
    exact List.map_congr_left fun x hx => by rw [h1 x (List.mem_range.1 hx)]
  have e3 : plBr L ac'.length t' = plBr L ac.length t := by
    unfold plBr
    rw [← hn]
    refine flatMap_same fun x hx => flatMap_same fun i hi => List.map_congr_left fun j hj => ?_
    rw [h2 x i j (List.mem_range.1 hx) (List.mem_range.1 hi) (List.mem_range.1 hj)]
  unfold plainA
  rw [e1, e2, e3, hn]

/-! ## its memory -/
theorem flat2 (l : List Leaf) : ∀ (k j : Nat) (b : Leaf), l[k]? = some b → j < 2 → (l.flatMap lvCells)[k * 2 + j]? = some (encL b j) := by
  induction l with
  | nil => intro k j b h; simp at h
  | cons c l ih =>
    intro k j b h hj
    rw [List.flatMap_cons]
    cases k with
    | zero =>
      simp at h; subst h
      rw [List.getElem?_append_left (by simp [lvCells]; omega)]
      match j, hj with
      | 0, _ => simp [lvCells, encL]
      | 1, _ => simp [lvCells, encL]
    | succ k =>
      simp at h
      rw [List.getElem?_append_right (by simp [lvCells]; omega)]
      have := ih k j b h hj
      rw [show (k + 1) * 2 + j - (lvCells c).length = k * 2 + j from by simp [lvCells]; omega]
      exact this
theorem sl_own {D : Type} {w : World} {base sz : Nat} {e : TypeId} {v : Value} {enc : D → Nat → Value} {ds : List D} {xs : List Value} (h : w.ownsRow base e sz v ds.length xs) (hx : ∀ (k j : Nat) (d : D), ds[k]? = some d → j < sz → xs[k * sz + j]? = some (enc d j)) :
    ∃ A c, v = .slice A ds.length c ∧ Sl w w.heap.size sz enc A ds := by
  obtain ⟨hl, hh⟩ := h
  rcases hh with ⟨rfl, h0⟩ | ⟨g, cap, cur, rfl, hb, hg, hc, hm, hs, ht⟩
  · have : ds = [] := List.length_eq_zero_iff.1 h0
    subst this
    exact ⟨none, 0, rfl, Sl.nil rfl⟩
  · refine ⟨_, _, rfl, by unfold maxLen at hm; omega, fun _ => ⟨g, 0, rfl, (Array.getElem?_eq_some_iff.1 hg).1, fun k d hd j hj => ?_⟩⟩
    rw [cell_of_row w g _ cur e (0, 0) hg, Nat.zero_add, ← hx k j d hd hj, ← ht, List.getElem?_take]
    have hk := lt_of_get hd
    have : k * sz + j < ds.length * sz := by
      have : (k + 1) * sz ≤ ds.length * sz := Nat.mul_le_mul_right _ hk
      rw [Nat.succ_mul] at this
      omega
    simp [this]
theorem own_ta {w : World} {base L : Nat} {v : Value} {ac : List Bool} {lf : List Nat} {t : List (List (List Nat))} (h : OwnTA w base v L ac.length (accIdx ac) (plLv lf) (plBr L ac.length t)) : IsTA w w.heap.size v (plainA L ac lf t) := by
  obtain ⟨va, vl, vb, rfl, h1, h2, h3⟩ := h
  have h1' : w.ownsRow base 3 1 va ((accIdx ac).map fun i : Nat => (i : Int)).length ((accIdx ac).map encN) := by simpa using h1
  obtain ⟨A1, c1, rfl, s1⟩ := sl_own (enc := encI) h1' (fun k j d hd hj => by
    have hj0 : j = 0 := by omega
    subst hj0
    rw [List.getElem?_map] at hd
    rw [Nat.mul_one, Nat.add_zero, List.getElem?_map]
    cases hk : (accIdx ac)[k]? with
    | none => rw [hk] at hd; cases hd
    | some i =>
      rw [hk] at hd
      have := Option.some.inj hd
      subst this
      rfl)
  obtain ⟨A2, c2, rfl, s2⟩ := sl_own (enc := encL) h2 (fun k j d hd hj => flat2 _ k j d hd hj)
  obtain ⟨A3, c3, rfl, s3⟩ := sl_own (enc := encBr) h3 (fun k j d hd hj => flat4 _ k j d hd hj)
  exact ⟨A1, c1, A2, c2, A3, c3, rfl, s1, s2, s3⟩

theorem plBr_len {L n : Nat} {t : List (List (List Nat))} : (plBr L n t).length = L * (n * n) := by
  unfold plBr
  simp [List.length_flatMap, List.map_const', List.sum_replicate_nat]
/-- Both automata give the same answer on all trees. -/
theorem keep_acc {a : TA} {ac : List Bool} {lf : List Nat} {t : List (List (List Nat))} (hv : a.valid = true) (h : MOK a.letters.toNat ac lf t) (hn : ac.length ≤ 64) (hc : Canon a.letters.toNat ac.length (mleaf lf) (mbr t) (macc ac) a.lang) (sh lb : List Int) :
    accT (plainA a.letters.toNat ac lf t) sh lb = accT a sh lb := by
  obtain ⟨h1, h8, -, -, -, -, -, -⟩ := TA.valid_parts hv
  have hpv := plain_valid h (by omega) (by omega) hn
  have hl : (plainA a.letters.toNat ac lf t).letters = a.letters := by simp [plainA]; omega
  unfold accT
  rw [hpv, hv, hl]
  cases hvt : validT a.letters sh lb
  · rfl
  · have hok := (validT_tree hvt).2.1
    rw [plain_lang h _ hok, hc.lang _ hok]
end Go.Proofs.Ytnimlcbgeiajiaa

namespace Go.Proofs.Ytnimlcbgeiajiaa
open Go.RowKit

/-- The canonical machine of the automaton has so many states. -/
def CanN (a : TA) (n : Nat) : Prop := ∃ leaf br acc, Canon a.letters.toNat n leaf br acc a.lang
theorem CanN.eq {a : TA} {n n' : Nat} (h : CanN a n) (h' : CanN a n') : n = n' := by
  obtain ⟨_, _, _, h⟩ := h
  obtain ⟨_, _, _, h'⟩ := h'
  exact (h.unique h' fun _ _ => rfl).1
/-- The product of the numbers of states, cut at 65. -/
def szN (ns : List Nat) : Nat := ns.foldl (fun s n => min (s * n) 65) 1
def SzR (l : List TA) (s : Nat) : Prop := ∃ ns : List Nat, ns.length = l.length ∧ (∀ (i : Nat) (a : TA) (n : Nat), l[i]? = some a → ns[i]? = some n → CanN a n) ∧ s = szN ns
theorem SzR.eq {l : List TA} {s s' : Nat} (h : SzR l s) (h' : SzR l s') : s = s' := by
  obtain ⟨ns, h1, h2, rfl⟩ := h
  obtain ⟨ns', h1', h2', rfl⟩ := h'
  have : ns = ns' := by
    refine List.ext_getElem? fun i => ?_
    by_cases hi : i < l.length
    · obtain ⟨a, ha⟩ := get_lt hi
      obtain ⟨n, hn⟩ := get_lt (l := ns) (i := i) (by omega)
      obtain ⟨n', hn'⟩ := get_lt (l := ns') (i := i) (by omega)
      rw [hn, hn', (h2 i a n ha hn).eq (h2' i a n' ha hn')]
    · rw [List.getElem?_eq_none (by omega), List.getElem?_eq_none (by omega)]
  rw [this]
theorem SzR.nil : SzR [] 1 := ⟨[], rfl, fun i a n h => by simp at h, rfl⟩
theorem SzR.snoc {l : List TA} {s : Nat} (h : SzR l s) {a : TA} {n : Nat} (hn : CanN a n) : SzR (l ++ [a]) (min (s * n) 65) := by
  obtain ⟨ns, h1, h2, rfl⟩ := h
  refine ⟨ns ++ [n], by simp [h1], fun i b m hb hm => ?_, by simp [szN]⟩
  by_cases hi : i < l.length
  · rw [List.getElem?_append_left hi] at hb
    rw [List.getElem?_append_left (by omega)] at hm
    exact h2 i b m hb hm
  · have hi2 := lt_of_get hb
    simp at hi2
    obtain rfl : i = l.length := by omega
    rw [← h1] at hm
    simp at hb hm
    subst hb hm
    exact hn
/-- The language of all, joined from the left. -/
def langJ (j : Bool → Bool → Bool) : List TA → Tr → Bool
  | [], _ => false
  | a :: l, t => l.foldl (fun x b => j x (b.lang t)) (a.lang t)
theorem langJ_one (j : Bool → Bool → Bool) (a : TA) : langJ j [a] = a.lang := rfl
theorem langJ_snoc (j : Bool → Bool → Bool) {l : List TA} (h : l ≠ []) (a : TA) (t : Tr) : langJ j (l ++ [a]) t = j (langJ j l t) (a.lang t) := by
  cases l with
  | nil => exact absurd rfl h
  | cons b l => simp [langJ]

/-- What joined returns. -/
def JoinR (w' : World) (base : Nat) (j : Bool → Bool → Bool) (l : List TA) (r : Value) : Prop :=
  ((l = [] ∨ chkL l = false) ∧ r = .tuple #[zeroTA, .int .i64 1]) ∨
  (l ≠ [] ∧ chkL l = true ∧ ((∃ a ∈ l, a.Large) ∨ (∀ a ∈ l, ¬ a.Large) ∧ ∃ s, SzR l s ∧ 64 < s) ∧ r = .tuple #[zeroTA, .int .i64 4]) ∨
  (l ≠ [] ∧ chkL l = true ∧ (∀ a ∈ l, ¬ a.Large) ∧ ∃ s v L ac lf t, SzR l s ∧ s ≤ 64 ∧ r = .tuple #[v, .int .i64 0] ∧ (∀ a ∈ l, a.letters.toNat = L) ∧ OwnTA w' base v L ac.length (accIdx ac) (plLv lf) (plBr L ac.length t) ∧
    MOK L ac lf t ∧ ac.length ≤ 64 ∧ Canon L ac.length (mleaf lf) (mbr t) (macc ac) (langJ j l))

/-- What has been joined so far. -/
structure JoinS (wr : World) (base : Nat) (L : Nat) (j : Bool → Bool → Bool) (l : List TA) (out : Value) (s : Nat) : Prop where
  sz : SzR l s
  pos : 1 ≤ s
  le : s ≤ 65
  none_ : l = [] → out = .pointer none ∧ s = 1
  some_ : l ≠ [] → ∃ gM ac lf t, out = .pointer (some ⟨gM, 0, none⟩) ∧ Mach wr base gM L ac lf t ∧ MOK L ac lf t ∧ ac.length ≤ 64 ∧ (s ≤ 64 → ac.length ≤ s ∧ Canon L ac.length (mleaf lf) (mbr t) (macc ac) (langJ j l))
theorem JoinS.keep0 {w w' : World} {base L : Nat} {j : Bool → Bool → Bool} {l : List TA} {out : Value} {s : Nat} (h : JoinS w base L j l out s) (hk : Kept w w' (fun _ => False)) : JoinS w' base L j l out s :=
  ⟨h.sz, h.pos, h.le, h.none_, fun hn => by
    obtain ⟨gM, ac, lf, t, h1, h2, h3⟩ := h.some_ hn
    exact ⟨gM, ac, lf, t, h1, h2.keep0 hk, h3⟩⟩
theorem chkL_at {l : List TA} (h : chkL l = true) {a : TA} (ha : a ∈ l) : a.valid = true ∧ a.letters = (l.headD ⟨0, 0, [], [], []⟩).letters := by
  unfold chkL at h
  simp only [Bool.and_eq_true, List.all_eq_true, decide_eq_true_eq] at h
  exact ⟨h.1 a ha, h.2 a ha⟩

set_option maxHeartbeats 16000000 in
set_option maxRecDepth 100000 in
theorem joined_any {w : World} {c : Nat} {A : Option Addr} {l : List TA} {vj : Value} {j : Bool → Bool → Bool} (h : TAs w w.heap.size A l) (hj : Op3 vj j) (hbr : ∀ a ∈ l, a.branches.length ≤ 900000) (hl6 : l.length ≤ 1000) :
    Calls Try.prog 61 #[.agg #[vj], .slice A l.length c] w (Ret fun r w' => Below w.heap.size w w' ∧ JoinR w' w.heap.size j l r) := by
  obtain ⟨w1, hw1, hb1, hB1, hk1⟩ := box_blk w #[vj] 90
  obtain ⟨w2, hw2, hb2, hB2, hk2⟩ := box_blk w1 #[.int .i64 0, .int .i64 0, .slice none 0 0, .slice none 0 0, .slice none 0 0] 26
  have z1 := hb1.size
  have hb02 := hb1.trans (hb2.mono z1)
  have hHS := hide (h.keep (fun _ hp => hb02.cell hp) hb02.size)
  have hJ := hide hj
  have hc2 := hB2.cell
  have hf2 := hB2.frozen
  have hl2 := hB2.lt
  have hH02 := hide hb02
  have hB12 := hB1.kept hk2 id
  by_cases h0 : l.length = 0
  · have hl0 : l = [] := List.length_eq_zero_iff.1 h0
    clear hj z1
    go_enter Try.func61, Try.ntmps61
    go_wp2_with fail
    obtain ⟨wF, hwF, hgF, hkF⟩ := set5_facts hB2 (.int .i64 0) (.int .i64 0) (.slice none 0 0) (.slice none 0 0) (.slice none 0 0)
    change bodyPost _ _ _ _ _ (set5 w2 w1.heap.size (.int .i64 0) (.int .i64 0) (.slice none 0 0) (.slice none 0 0) (.slice none 0 0))
    rw [hwF]
    have hcF := hgF.cell
    have z1 := hb1.size
    exact bodyPost_ret (v := .tuple #[zeroTA, .int .i64 1]) (by simp [results, Try.results61, go_sem, hcF, zeroTA]) rfl ⟨hH02.out.trans (hkF.below hH02.out.size (fun b hb e => by omega)), .inl ⟨.inl hl0, rfl⟩⟩
  · have hne : l ≠ [] := fun e => h0 (by rw [e]; rfl)
    have hNE := hide hne
    have hz0 : ((l.length : Int) == 0) = false := by simp; omega
    have hz02 := hide hH02.out.size
    have hZ1 := hide z1
    clear hj z1 hne
    go_enter Try.func61, Try.ntmps61
    go_wp2_with fail
    refine Calls.ret (check_any hHS.out) ?_
    rintro v w3 ⟨rfl, hb3⟩
    have hB23 := hB2.kept (Kept.of_below hb3 (fun _ => False)) id
    have hc3 := hB23.cell
    have hf3 := hB23.frozen
    have hl3 := hB23.lt
    have hH23 := hide hb3
    have hz3 := hide hb3.size
    cases hc : chkL l with
    | false =>
      simp only [errno]
      have hC := hide hc
      clear hc hb3
      go_wp2_with fail
      obtain ⟨wF, hwF, hgF, hkF⟩ := set5_facts hB23 (.int .i64 0) (.int .i64 0) (.slice none 0 0) (.slice none 0 0) (.slice none 0 0)
      change bodyPost _ _ _ _ _ (set5 w3 w1.heap.size (.int .i64 0) (.int .i64 0) (.slice none 0 0) (.slice none 0 0) (.slice none 0 0))
      rw [hwF]
      have hcF := hgF.cell
      exact bodyPost_ret (v := .tuple #[zeroTA, .int .i64 1]) (by simp [results, Try.results61, go_sem, hcF, zeroTA]) rfl ⟨(hH02.out.trans (hH23.out.mono hz02.out)).trans (hkF.below (Nat.le_trans hz02.out hz3.out) (fun b hb e => by have := hZ1.out; omega)), .inl ⟨.inr hC.out, rfl⟩⟩
    | true =>
      simp only [errno]
      have hC := hide hc
      clear hc hb3
      have hn := h.1
      have hLJ : 1 ≤ (l.headD ⟨0, 0, [], [], []⟩).letters ∧ (l.headD ⟨0, 0, [], [], []⟩).letters ≤ 8 := by
        obtain ⟨a, ha⟩ := get_lt (l := l) (i := 0) (by omega)
        obtain ⟨h1, h2⟩ := chkL_at hC.out (List.mem_of_getElem? ha)
        have := TA.valid_parts h1
        rw [← h2]
        exact ⟨this.1, this.2.1⟩
      obtain ⟨L0, hL0⟩ : ∃ L0, (l.headD ⟨0, 0, [], [], []⟩).letters = L0 := ⟨_, rfl⟩
      rw [hL0] at hLJ
      have hLJH := hide hLJ
      have hLH := hide hL0
      clear hLJ hL0
      go_wp2_with fail
      go_loopw [7, 8, 25] (fun oo ss ii wr => ∃ (k s : Nat), ii = .int .i64 (k : Int) ∧ ss = .int .i64 (s : Int) ∧ k ≤ l.length ∧ Below w3.heap.size w3 wr ∧ Hid (∀ a ∈ l.take k, ¬ a.Large) ∧ Hid (JoinS wr w.heap.size L0.toNat j (l.take k) oo s)) (fun _ _ ii _ => l.length - (intOf ii).toNat)
      case atStart => exact ⟨0, 1, rfl, rfl, Nat.zero_le _, Below.refl _ _, fun a ha => by simp at ha, ⟨SzR.nil, by omega, by omega, fun _ => ⟨rfl, rfl⟩, fun h => absurd rfl h⟩⟩
      case round =>
        obtain ⟨k, s, rfl, rfl, hk, hB, hNL, hJS⟩ := hrel
        have hB2r := hB23.kept (Kept.of_below hB (fun _ => False)) id
        have hB1r := (hB12.kept (Kept.of_below hH23.out (fun _ => False)) id).kept (Kept.of_below hB (fun _ => False)) id
        have hzr := hide hB.size
        have hb0r := hide ((hH02.out.trans (hH23.out.mono hz02.out)).trans (hB.mono (Nat.le_trans hz02.out hz3.out)))
        have hHB := hide hB
        by_cases hlt : k < l.length
        · obtain ⟨b, off, a, A1, c1, A2, c2, A3, c3, rfl, hbb, ha, q0, q1, q2, q3, q4, s1, s2, s3⟩ := h.at hlt
          have q0' := (hb0r.out.cell (by exact hbb)).trans q0
          have q1' := (hb0r.out.cell (by exact hbb)).trans q1
          have q2' := (hb0r.out.cell (by exact hbb)).trans q2
          have q3' := (hb0r.out.cell (by exact hbb)).trans q3
          have q4' := (hb0r.out.cell (by exact hbb)).trans q4
          obtain ⟨w5, hw5, hb5, hB5, hk5⟩ := box_blk wr #[.int .i64 a.letters, .int .i64 a.states, .slice A1 a.accept.length c1, .slice A2 a.leaves.length c2, .slice A3 a.branches.length c3] 26
          have hb05 := hb0r.out.trans (hb5.mono hb0r.out.size)
          have hT : IsTA w5 w5.heap.size (.agg #[.int .i64 a.letters, .int .i64 a.states, .slice A1 a.accept.length c1, .slice A2 a.leaves.length c2, .slice A3 a.branches.length c3]) a :=
            IsTA.keep ⟨A1, c1, A2, c2, A3, c3, rfl, s1, s2, s3⟩ (fun _ hp => hb05.cell hp) hb05.size
          have hHT := hide hT
          have hcb := hB5.cell
          have hHA := hide ha
          have hmem := List.mem_of_getElem? ha
          have hbra := hide (hbr a hmem)
          have hchk := hide (chkL_at hC.out hmem)
          have hJ5 := hide (hJS.out.keep0 hk5)
          have hB25 := hB2r.kept hk5 id
          have hB15 := hB1r.kept hk5 id
          have hH05 := hide hb05
          have hH35 := hide (hHB.out.trans (hb5.mono hzr.out))
          have hz5 := hide hb5.size
          clear q0 q1 q2 q3 q4 s1 s2 s3 hT hc3 hf3 hc2 hf2 hb05 hb5 hB ha hmem
          go_wp2_with fail
          refine Calls.ret (treeMin_any _ a w5 hHT.out hchk.out.1 hbra.out) ?_
          rintro v w6 ⟨hb6, hres⟩
          have hB26 := hB25.kept (Kept.of_below hb6 (fun _ => False)) id
          have hB16 := hB15.kept (Kept.of_below hb6 (fun _ => False)) id
          have hJ6 := hide (hJ5.out.keep0 (Kept.of_below hb6 (fun _ => False)))
          have hH06 := hide (hH05.out.trans (hb6.mono hH05.out.size))
          have hH36 := hide (hH35.out.trans (hb6.mono hH35.out.size))
          rcases hres with ⟨rfl, hlg⟩ | ⟨gN, ac', lf', t', rfl, hgN, ⟨va', vl', vb', hN⟩, hok', h64', hnl', hcan'⟩
          · have hLG := hide hlg
            have hc6 := hB26.cell
            have hf6 := hB26.frozen
            have hl6' := hB26.lt
            clear hlg hb6
            go_wp2_with fail
            obtain ⟨wF, hwF, hgF, hkF⟩ := set5_facts hB26 (.int .i64 0) (.int .i64 0) (.slice none 0 0) (.slice none 0 0) (.slice none 0 0)
            change bodyPost _ _ _ _ _ (set5 w6 w1.heap.size (.int .i64 0) (.int .i64 0) (.slice none 0 0) (.slice none 0 0) (.slice none 0 0))
            rw [hwF]
            have hcF := hgF.cell
            exact bodyPost_ret (v := .tuple #[zeroTA, .int .i64 4]) (by simp [results, Try.results61, go_sem, hcF, zeroTA]) rfl ⟨hH06.out.trans (hkF.below hH06.out.size (fun b hb e => by have := hZ1.out; omega)), .inr (.inl ⟨hNE.out, hC.out, .inl ⟨a, List.mem_of_getElem? hHA.out, hLG.out⟩, rfl⟩)⟩
          · have hLa : a.letters.toNat = L0.toNat := by rw [hchk.out.2, hLH.out]
            have hCNN : Hid (CanN a ac'.length) := ⟨_, _, _, hcan'⟩
            rw [hLa] at hN hok' hcan'
            have hNN := hide hN
            have hOO := hide hok'
            have hNLa := hide hnl'
            have hCN := hide hcan'
            have hLL := hide hLa
            have hzb := hide (Nat.le_trans hH05.out.size (Nat.le_refl _))
            clear hN hok' hnl' hcan' hLa hb6
            go_wp2_with fail
            refine (states_any hNN.out (by omega)).mono ?_
            rintro e w7 ⟨rfl, rfl⟩
            have htk : l.take (k + 1) = l.take k ++ [a] := by rw [List.take_add_one, hHA.out]; rfl
            have hTK := hide htk
            have hNL' : Hid (∀ b ∈ l.take (k + 1), ¬ b.Large) := by
              intro b hb
              rw [hTK.out, List.mem_append, List.mem_singleton] at hb
              rcases hb with hb | rfl
              · exact hNL.out b hb
              · exact hNLa.out
            have hpos' := hOO.out.pos (by have := hLJH.out; omega)
            have hM7 : Hid (Mach w6 w.heap.size gN L0.toNat ac' lf' t') := Mach.weak ⟨_, _, _, hNN.out⟩ hzb.out
            clear htk
            by_cases hk0 : k = 0
            · subst hk0
              obtain ⟨rfl, rfl⟩ := hJ6.out.none_ rfl
              have hn65 : (ac'.length : Int) ≤ 65 := by omega
              have hn65' : (ac'.length : Int) < 65 := by omega
              go_wp2_with fail
              refine ⟨⟨1, ac'.length, rfl, rfl, by omega, hH36.out, hNL'.out, ?_⟩, by simp [intOf]; omega⟩
              have hsz : SzR (l.take 1) ac'.length := by
                have := SzR.nil.snoc hCNN.out
                rw [Nat.one_mul, Nat.min_eq_left (by omega)] at this
                have e := hTK.out
                rw [List.take_zero] at e
                rw [e]
                exact this
              refine ⟨hsz, by omega, by omega, fun e => ?_, fun _ => ⟨gN, ac', lf', t', rfl, hM7.out, hOO.out, h64', fun _ => ⟨Nat.le_refl _, ?_⟩⟩⟩
              · rw [hTK.out] at e
                simp at e
              · have e := hTK.out
                rw [List.take_zero, List.nil_append] at e
                rw [e]
                exact hCN.out
            · have hne' : l.take k ≠ [] := fun e => by
                rcases List.take_eq_nil_iff.1 e with e | e
                · exact hk0 e
                · exact hNE.out e
              obtain ⟨gM, ac, lf, t, rfl, ⟨va, vl, vb, hM⟩, hok, h64, hrest⟩ := hJ6.out.some_ hne'
              have hMM := hide hM
              have hOK := hide hok
              have hRS := hide hrest
              have hNE' := hide hne'
              have hs1 := hJ6.out.pos
              have hs65 := hJ6.out.le
              have hmul : s * ac'.length ≤ 65 * 64 := Nat.mul_le_mul hs65 h64'
              have hcO : w6.cell? ⟨w.heap.size, 0, none⟩ = some vj := hB16.cell 0
              have hM0 : (0 : Int) ≤ (s : Int) * (ac'.length : Int) := by rw [← Int.natCast_mul]; omega
              have hM1 : (s : Int) * (ac'.length : Int) ≤ 4160 := by rw [← Int.natCast_mul]; omega
              have hZS := hJ6.out.sz.snoc hCNN.out
              rw [← hTK.out] at hZS
              have hZZ := hide hZS
              clear hM hok hrest hne' hZS
              by_cases hs : s * ac'.length ≤ 64
              · have hp1 : (s : Int) * (ac'.length : Int) ≤ 65 := by rw [← Int.natCast_mul]; omega
                have hp2 : (s : Int) * (ac'.length : Int) < 65 := by rw [← Int.natCast_mul]; omega
                have hp3 : (s : Int) * (ac'.length : Int) ≤ 64 := by rw [← Int.natCast_mul]; omega
                go_wp2_with fail
                obtain ⟨vA, vL, vB, hN7⟩ := hM7.out
                refine Calls.ret (product_any hMM.out hN7 hOK.out hOO.out (by have := hLJH.out; omega) (by have := hLJH.out; omega) h64 h64' hJ.out) ?_
                rintro v w8 ⟨hb8, gR, ar, lr, tr, rfl, hgR, hMr, hokr, hler, hcanr⟩
                have hb38 := hide (hH36.out.trans (hb8.mono hH36.out.size))
                have hMR := hide (hMr.weak hH06.out.size)
                have hOR := hide hokr
                have hCR := hide hcanr
                have hLR := hide hler
                clear hMr hokr hler hcanr hb8 hcO
                go_wp2_with fail
                refine ⟨⟨k + 1, s * ac'.length, by go_num, by rw [Int.natCast_mul], by omega, hb38.out, hNL'.out, ?_⟩, by simp [intOf]; omega⟩
                obtain ⟨hle, hcan⟩ := hRS.out (Nat.le_trans (Nat.le_mul_of_pos_right s hpos') hs)
                have har : ar.length ≤ s * ac'.length := Nat.le_trans hLR.out (Nat.mul_le_mul_right _ hle)
                refine ⟨by have := hZZ.out; rwa [Nat.min_eq_left (by omega)] at this, Nat.mul_pos hs1 hpos', by omega, fun e => ?_, fun _ => ⟨gR, ar, lr, tr, rfl, hMR.out, hOR.out, by omega, fun _ => ⟨har, ?_⟩⟩⟩
                · rw [hTK.out] at e
                  simp at e
                · refine hCR.out.congr fun u hu => ?_
                  rw [hTK.out, langJ_snoc j hNE'.out, hcan.lang u hu, hCN.out.lang u hu]
              · have hp1 : ¬ (s : Int) * (ac'.length : Int) < 65 := by rw [← Int.natCast_mul]; omega
                have hp2 : (65 : Int) ≤ (s : Int) * (ac'.length : Int) := by rw [← Int.natCast_mul]; omega
                have hp3 : ¬ (64 : Int) < 0 := by omega
                go_wp2_with fail
                refine ⟨⟨k + 1, 65, by go_num, congrArg (Value.int .i64) (by split <;> omega), by omega, hH36.out, hNL'.out, ?_⟩, by simp [intOf]; omega⟩
                refine ⟨by have := hZZ.out; rwa [Nat.min_eq_right (by omega)] at this, by omega, by omega, fun e => ?_, fun _ => ⟨gM, ac, lf, t, rfl, ⟨va, vl, vb, hMM.out⟩, hOK.out, h64, fun h => absurd h (by omega)⟩⟩
                rw [hTK.out] at e
                simp at e
        · have hke : k = l.length := by omega
          have htl : l.take k = l := List.take_of_length_le (by omega)
          rw [htl] at hNL hJS
          obtain ⟨gM, ac, lf, t, rfl, ⟨va, vl, vb, hM⟩, hok, h64, hrest⟩ := hJS.out.some_ hNE.out
          have hMM := hide hM
          have hOK := hide hok
          have hRS := hide hrest
          have hcr := hB2r.cell
          have hfr := hB2r.frozen
          have hlr := hB2r.lt
          clear hM hok hrest htl hB hc3 hf3 hl3
          by_cases hs : s ≤ 64
          · have hsi : ¬ (64 : Int) < (s : Int) := by omega
            obtain ⟨L, hLe⟩ : ∃ L, L0.toNat = L := ⟨_, rfl⟩
            have hLh := hide hLe
            rw [hLe] at hMM hOK hRS
            have hall : ∀ a ∈ l, a.letters.toNat = L := fun a ha => by rw [(chkL_at hC.out ha).2, hLH.out, hLe]
            have hAL := hide hall
            have hL8 : L ≤ 8 := by have := hLJH.out; omega
            clear hLe hall
            go_wp2_with fail
            refine Calls.ret (plain_any hMM.out hOK.out hL8 (by omega)) ?_
            rintro v w5 ⟨hb5, va', vl', vb', rfl, ho1, ho2, ho3⟩
            obtain ⟨A5, d5, rfl⟩ := slice_of_own ho1
            obtain ⟨A6, d6, rfl⟩ := slice_of_own ho2
            obtain ⟨A7, d7, rfl⟩ := slice_of_own ho3
            have hB25 := hB2r.below hb5
            have hc25 := hB25.cell
            have hf25 := hB25.frozen
            have hlt5 := hB25.lt
            have hb05 := hide (hb0r.out.trans (hb5.mono hb0r.out.size))
            clear hcr hfr hlr hb5
            go_wp2_with fail
            obtain ⟨wF, hwF, hgF, hkF⟩ := set5_facts hB25 (.int .i64 (L : Int)) (.int .i64 (ac.length : Int)) (.slice A5 (accIdx ac).length d5) (.slice A6 (plLv lf).length d6) (.slice A7 (plBr L ac.length t).length d7)
            change bodyPost _ _ _ _ _ (set5 w5 w1.heap.size (.int .i64 (L : Int)) (.int .i64 (ac.length : Int)) (.slice A5 (accIdx ac).length d5) (.slice A6 (plLv lf).length d6) (.slice A7 (plBr L ac.length t).length d7))
            rw [hwF]
            have hcF := hgF.cell
            have hne : ∀ e, e ≠ 26 → ∀ g cs, g = w1.heap.size → ¬ Blk w5 g e cs := fun e he g cs eg hb => by subst eg; exact hB25.ne_ hb (fun h => he h.symm) rfl
            obtain ⟨-, hcan⟩ := hRS.out hs
            have hbr0 := hb0r.out.size
            refine bodyPost_ret (v := .tuple #[.agg #[.int .i64 (L : Int), .int .i64 (ac.length : Int), .slice A5 (accIdx ac).length d5, .slice A6 (plLv lf).length d6, .slice A7 (plBr L ac.length t).length d7], .int .i64 0]) (by simp [results, Try.results61, go_sem, hcF]) rfl
              ⟨hb05.out.trans (hkF.below hb05.out.size (fun b hb e => by have := hZ1.out; omega)), .inr (.inr ⟨hNE.out, hC.out, hNL.out, s, _, L, ac, lf, t, hJS.out.sz, hs, rfl, hAL.out, ⟨_, _, _, rfl, ?_, ?_, ?_⟩, hOK.out, h64, hcan⟩)⟩
            · exact own_weak (own_ty hkF ho1 (hne 3 (by decide))) hbr0
            · exact own_weak (own_ty hkF ho2 (hne 36 (by decide))) hbr0
            · exact own_weak (own_ty hkF ho3 (hne 59 (by decide))) hbr0
          · have hsi : (64 : Int) < (s : Int) := by omega
            go_wp2_with fail
            obtain ⟨wF, hwF, hgF, hkF⟩ := set5_facts hB2r (.int .i64 0) (.int .i64 0) (.slice none 0 0) (.slice none 0 0) (.slice none 0 0)
            change bodyPost _ _ _ _ _ (set5 wr w1.heap.size (.int .i64 0) (.int .i64 0) (.slice none 0 0) (.slice none 0 0) (.slice none 0 0))
            rw [hwF]
            have hcF := hgF.cell
            exact bodyPost_ret (v := .tuple #[zeroTA, .int .i64 4]) (by simp [results, Try.results61, go_sem, hcF, zeroTA]) rfl ⟨hb0r.out.trans (hkF.below hb0r.out.size (fun b hb e => by have := hZ1.out; omega)), .inr (.inl ⟨hNE.out, hC.out, .inr ⟨hNL.out, s, hJS.out.sz, by omega⟩, rfl⟩)⟩
end Go.Proofs.Ytnimlcbgeiajiaa

namespace Go.Proofs.Ytnimlcbgeiajiaa
open Go.RowKit

set_option maxHeartbeats 8000000 in
set_option maxRecDepth 100000 in
theorem union_any {w : World} {c : Nat} {A : Option Addr} {l : List TA} (h : TAs w w.heap.size A l) (hbr : ∀ a ∈ l, a.branches.length ≤ 900000) (hl6 : l.length ≤ 1000) :
    Calls Try.prog 34 #[.slice A l.length c] w (Ret fun r w' => Below w.heap.size w w' ∧ JoinR w' w.heap.size (fun a b => a || b) l r) := by
  obtain ⟨w1, hw1, hb1, hB1, hk1⟩ := box_blk w #[.int .i64 0, .int .i64 0, .slice none 0 0, .slice none 0 0, .slice none 0 0] 26
  have z1 := hide hb1.size
  have hH1 := hide hb1
  have hHS := hide (h.keep (fun _ hp => hb1.cell hp) hb1.size)
  clear h hb1
  go_enter Try.func34, Try.ntmps34
  go_wp2_with fail
  refine Calls.ret (op_any (f := 62) (j := 86) (.inl ⟨rfl, rfl⟩) w1) ?_
  rintro v w2 ⟨rfl, hb2⟩
  have hB2 := hB1.kept (Kept.of_below hb2 (fun _ => False)) id
  have hH02 := hide (hH1.out.trans (hb2.mono z1.out))
  have hS2 := hide (hHS.out.keep (fun _ hp => hb2.cell hp) hb2.size)
  clear hb2
  go_wp2_with fail
  refine Calls.ret (joined_any (j := fun a b => a || b) hS2.out (.inl ⟨rfl, rfl⟩) hbr hl6) ?_
  rintro v w3 ⟨hb3, hJR⟩
  have hB3 := hB2.kept (Kept.of_below hb3 (fun _ => False)) id
  have hc3 := hB3.cell
  have hf3 := hB3.frozen
  have hl3 := hB3.lt
  have hH03 := hide (hH02.out.trans (hb3.mono hH02.out.size))
  have hz2 := hide hH02.out.size
  clear hb3
  have hJR2 := hide hJR
  rcases hJR with ⟨h1, rfl⟩ | ⟨h1, h2, h3, rfl⟩ | ⟨h1, h2, h3, s, v, L, ac, lf, t, h4, h5, rfl, h6, ⟨va, vl, vb, rfl, ho1, ho2, ho3⟩, h7, h8, h9⟩
  · have e1 := hide h1
    unfold zeroTA
    clear h1 hJR2
    go_wp2_with fail
    obtain ⟨wF, hwF, hgF, hkF⟩ := set5_facts hB3 (.int .i64 0) (.int .i64 0) (.slice none 0 0) (.slice none 0 0) (.slice none 0 0)
    change bodyPost _ _ _ _ _ (set5 w3 w.heap.size (.int .i64 0) (.int .i64 0) (.slice none 0 0) (.slice none 0 0) (.slice none 0 0))
    rw [hwF]
    have hcF := hgF.cell
    exact bodyPost_ret (v := .tuple #[zeroTA, .int .i64 1]) (by simp [results, Try.results34, go_sem, hcF, zeroTA]) rfl ⟨hH03.out.trans (hkF.below hH03.out.size (fun b hb e => by omega)), .inl ⟨e1.out, rfl⟩⟩
  · have e1 := hide h1
    have e2 := hide h2
    have e3 := hide h3
    unfold zeroTA
    clear h1 h2 h3 hJR2
    go_wp2_with fail
    obtain ⟨wF, hwF, hgF, hkF⟩ := set5_facts hB3 (.int .i64 0) (.int .i64 0) (.slice none 0 0) (.slice none 0 0) (.slice none 0 0)
    change bodyPost _ _ _ _ _ (set5 w3 w.heap.size (.int .i64 0) (.int .i64 0) (.slice none 0 0) (.slice none 0 0) (.slice none 0 0))
    rw [hwF]
    have hcF := hgF.cell
    exact bodyPost_ret (v := .tuple #[zeroTA, .int .i64 4]) (by simp [results, Try.results34, go_sem, hcF, zeroTA]) rfl ⟨hH03.out.trans (hkF.below hH03.out.size (fun b hb e => by omega)), .inr (.inl ⟨e1.out, e2.out, e3.out, rfl⟩)⟩
  · have e1 := hide h1
    have e2 := hide h2
    have e3 := hide h3
    have e4 := hide h4
    have e6 := hide h6
    have e7 := hide h7
    have e9 := hide h9
    obtain ⟨A5, d5, rfl⟩ := slice_of_own ho1
    obtain ⟨A6, d6, rfl⟩ := slice_of_own ho2
    obtain ⟨A7, d7, rfl⟩ := slice_of_own ho3
    clear h1 h2 h3 h4 h6 h7 h9 hJR2
    go_wp2_with fail
    obtain ⟨wF, hwF, hgF, hkF⟩ := set5_facts hB3 (.int .i64 (L : Int)) (.int .i64 (ac.length : Int)) (.slice A5 (accIdx ac).length d5) (.slice A6 (plLv lf).length d6) (.slice A7 (plBr L ac.length t).length d7)
    change bodyPost _ _ _ _ _ (set5 w3 w.heap.size (.int .i64 (L : Int)) (.int .i64 (ac.length : Int)) (.slice A5 (accIdx ac).length d5) (.slice A6 (plLv lf).length d6) (.slice A7 (plBr L ac.length t).length d7))
    rw [hwF]
    have hcF := hgF.cell
    have hne : ∀ e, e ≠ 26 → ∀ g cs, g = w.heap.size → ¬ Blk w3 g e cs := fun e he g cs eg hb => by subst eg; exact hB3.ne_ hb (fun h => he h.symm) rfl
    refine bodyPost_ret (v := .tuple #[.agg #[.int .i64 (L : Int), .int .i64 (ac.length : Int), .slice A5 (accIdx ac).length d5, .slice A6 (plLv lf).length d6, .slice A7 (plBr L ac.length t).length d7], .int .i64 0]) (by simp [results, Try.results34, go_sem, hcF]) rfl
      ⟨hH03.out.trans (hkF.below hH03.out.size (fun b hb e => by omega)), .inr (.inr ⟨e1.out, e2.out, e3.out, s, _, L, ac, lf, t, e4.out, h5, rfl, e6.out, ⟨_, _, _, rfl, ?_, ?_, ?_⟩, e7.out, h8, e9.out⟩)⟩
    · exact own_weak (own_ty hkF ho1 (hne 3 (by decide))) hz2.out
    · exact own_weak (own_ty hkF ho2 (hne 36 (by decide))) hz2.out
    · exact own_weak (own_ty hkF ho3 (hne 59 (by decide))) hz2.out

set_option maxHeartbeats 8000000 in
set_option maxRecDepth 100000 in
theorem inter_any {w : World} {c : Nat} {A : Option Addr} {l : List TA} (h : TAs w w.heap.size A l) (hbr : ∀ a ∈ l, a.branches.length ≤ 900000) (hl6 : l.length ≤ 1000) :
    Calls Try.prog 36 #[.slice A l.length c] w (Ret fun r w' => Below w.heap.size w w' ∧ JoinR w' w.heap.size (fun a b => a && b) l r) := by
  obtain ⟨w1, hw1, hb1, hB1, hk1⟩ := box_blk w #[.int .i64 0, .int .i64 0, .slice none 0 0, .slice none 0 0, .slice none 0 0] 26
  have z1 := hide hb1.size
  have hH1 := hide hb1
  have hHS := hide (h.keep (fun _ hp => hb1.cell hp) hb1.size)
  clear h hb1
  go_enter Try.func36, Try.ntmps36
  go_wp2_with fail
  refine Calls.ret (op_any (f := 64) (j := 87) (.inr (.inl ⟨rfl, rfl⟩)) w1) ?_
  rintro v w2 ⟨rfl, hb2⟩
  have hB2 := hB1.kept (Kept.of_below hb2 (fun _ => False)) id
  have hH02 := hide (hH1.out.trans (hb2.mono z1.out))
  have hS2 := hide (hHS.out.keep (fun _ hp => hb2.cell hp) hb2.size)
  clear hb2
  go_wp2_with fail
  refine Calls.ret (joined_any (j := fun a b => a && b) hS2.out (.inr (.inl ⟨rfl, rfl⟩)) hbr hl6) ?_
  rintro v w3 ⟨hb3, hJR⟩
  have hB3 := hB2.kept (Kept.of_below hb3 (fun _ => False)) id
  have hc3 := hB3.cell
  have hf3 := hB3.frozen
  have hl3 := hB3.lt
  have hH03 := hide (hH02.out.trans (hb3.mono hH02.out.size))
  have hz2 := hide hH02.out.size
  clear hb3
  have hJR2 := hide hJR
  rcases hJR with ⟨h1, rfl⟩ | ⟨h1, h2, h3, rfl⟩ | ⟨h1, h2, h3, s, v, L, ac, lf, t, h4, h5, rfl, h6, ⟨va, vl, vb, rfl, ho1, ho2, ho3⟩, h7, h8, h9⟩
  · have e1 := hide h1
    unfold zeroTA
    clear h1 hJR2
    go_wp2_with fail
    obtain ⟨wF, hwF, hgF, hkF⟩ := set5_facts hB3 (.int .i64 0) (.int .i64 0) (.slice none 0 0) (.slice none 0 0) (.slice none 0 0)
    change bodyPost _ _ _ _ _ (set5 w3 w.heap.size (.int .i64 0) (.int .i64 0) (.slice none 0 0) (.slice none 0 0) (.slice none 0 0))
    rw [hwF]
    have hcF := hgF.cell
    exact bodyPost_ret (v := .tuple #[zeroTA, .int .i64 1]) (by simp [results, Try.results36, go_sem, hcF, zeroTA]) rfl ⟨hH03.out.trans (hkF.below hH03.out.size (fun b hb e => by omega)), .inl ⟨e1.out, rfl⟩⟩
  · have e1 := hide h1
    have e2 := hide h2
    have e3 := hide h3
    unfold zeroTA
    clear h1 h2 h3 hJR2
    go_wp2_with fail
    obtain ⟨wF, hwF, hgF, hkF⟩ := set5_facts hB3 (.int .i64 0) (.int .i64 0) (.slice none 0 0) (.slice none 0 0) (.slice none 0 0)
    change bodyPost _ _ _ _ _ (set5 w3 w.heap.size (.int .i64 0) (.int .i64 0) (.slice none 0 0) (.slice none 0 0) (.slice none 0 0))
    rw [hwF]
    have hcF := hgF.cell
    exact bodyPost_ret (v := .tuple #[zeroTA, .int .i64 4]) (by simp [results, Try.results36, go_sem, hcF, zeroTA]) rfl ⟨hH03.out.trans (hkF.below hH03.out.size (fun b hb e => by omega)), .inr (.inl ⟨e1.out, e2.out, e3.out, rfl⟩)⟩
  · have e1 := hide h1
    have e2 := hide h2
    have e3 := hide h3
    have e4 := hide h4
    have e6 := hide h6
    have e7 := hide h7
    have e9 := hide h9
    obtain ⟨A5, d5, rfl⟩ := slice_of_own ho1
    obtain ⟨A6, d6, rfl⟩ := slice_of_own ho2
    obtain ⟨A7, d7, rfl⟩ := slice_of_own ho3
    clear h1 h2 h3 h4 h6 h7 h9 hJR2
    go_wp2_with fail
    obtain ⟨wF, hwF, hgF, hkF⟩ := set5_facts hB3 (.int .i64 (L : Int)) (.int .i64 (ac.length : Int)) (.slice A5 (accIdx ac).length d5) (.slice A6 (plLv lf).length d6) (.slice A7 (plBr L ac.length t).length d7)
    change bodyPost _ _ _ _ _ (set5 w3 w.heap.size (.int .i64 (L : Int)) (.int .i64 (ac.length : Int)) (.slice A5 (accIdx ac).length d5) (.slice A6 (plLv lf).length d6) (.slice A7 (plBr L ac.length t).length d7))
    rw [hwF]
    have hcF := hgF.cell
    have hne : ∀ e, e ≠ 26 → ∀ g cs, g = w.heap.size → ¬ Blk w3 g e cs := fun e he g cs eg hb => by subst eg; exact hB3.ne_ hb (fun h => he h.symm) rfl
    refine bodyPost_ret (v := .tuple #[.agg #[.int .i64 (L : Int), .int .i64 (ac.length : Int), .slice A5 (accIdx ac).length d5, .slice A6 (plLv lf).length d6, .slice A7 (plBr L ac.length t).length d7], .int .i64 0]) (by simp [results, Try.results36, go_sem, hcF]) rfl
      ⟨hH03.out.trans (hkF.below hH03.out.size (fun b hb e => by omega)), .inr (.inr ⟨e1.out, e2.out, e3.out, s, _, L, ac, lf, t, e4.out, h5, rfl, e6.out, ⟨_, _, _, rfl, ?_, ?_, ?_⟩, e7.out, h8, e9.out⟩)⟩
    · exact own_weak (own_ty hkF ho1 (hne 3 (by decide))) hz2.out
    · exact own_weak (own_ty hkF ho2 (hne 36 (by decide))) hz2.out
    · exact own_weak (own_ty hkF ho3 (hne 59 (by decide))) hz2.out
end Go.Proofs.Ytnimlcbgeiajiaa

namespace Go.Proofs.Ytnimlcbgeiajiaa
open Go.RowKit

def inC (n lo hi : Int) : Bool := decide (lo ≤ n) && decide (n ≤ hi)

theorem inR_inC (n lo hi : Int) : inR n lo hi = inC n lo (hi - 1) := by
  unfold inR inC; congr 1; exact decide_eq_decide.2 (by omega)

set_option maxHeartbeats 400000 in
theorem within_any (n lo hi : Int) (w : World) : Calls Try.prog 45 #[.int .i64 n, .int .i64 lo, .int .i64 hi] w fun e w' => e = .returned (.bool (inC n lo hi)) ∧ w = w' := by
  by_cases h : lo ≤ n
  all_goals
    go_enter Try.func45, Try.ntmps45
    go_wp2
    go_ret
    exact ⟨by simp [inC]; omega, rfl⟩

set_option maxHeartbeats 4000000 in
set_option maxRecDepth 100000 in
theorem refValidate_head (v : Value) (a : TA) (w : World) (h : IsTA w w.heap.size v a) (hL : 1 ≤ a.letters ∧ a.letters ≤ 8 ∧ 0 ≤ a.states ∧ a.states ≤ 64) :
    Calls Try.prog 19 #[v] w fun e w' =>
      e = .returned (.int .i64 (errno a.valid)) ∧ Below w.heap.size w w' := by
  obtain ⟨A1, c1, A2, c2, A3, c3, rfl, h1, h2, h3⟩ := h
  have HH : Hid (a.head = true) := by show a.head = true; simp [TA.head]; omega
  obtain ⟨L, S, acc, lv, br⟩ := a
  dsimp only at *
  have hn1 := h1.1
  have hn2 := h2.1
  have hn3 := h3.1
  have hcL : inC L 1 8 = true := by simp [inC]; omega
  have hcS : inC S 0 64 = true := by simp [inC]; omega
  have HcL := hide hcL
  have HcS := hide hcS
  clear hcL hcS
  go_enter Try.func19, Try.ntmps19
  go_wp2_with (go_at_call 45; refine (within_any _ _ _ _).mono ?_; rintro e w' ⟨rfl, rfl⟩; (first | rw [HcL.out] | rw [HcS.out]))
  obtain ⟨w1, hw1, hb1, hg1, hB1⟩ := box_facts w #[.int .i64 L, .int .i64 S, .slice A1 acc.length c1, .slice A2 lv.length c2, .slice A3 br.length c3] 26
  rw [hw1]
  clear hw1
  go_loopw [3] (fun i wr => ∃ k : Nat, k ≤ acc.length ∧ i = .int .i64 k ∧ (acc.take k).all (inR · 0 S) ∧ Below w1.heap.size w1 wr) (fun i _ => acc.length - (intOf i).toNat)
  case atStart => exact ⟨0, Nat.zero_le _, rfl, by simp, Below.refl _ _⟩
  case round =>
    obtain ⟨k, hk, rfl, hall, hbr⟩ := hrel
    obtain ⟨hg2, hB2⟩ := box_later hbr hg1 hB1
    by_cases hlt : k < acc.length
    · obtain ⟨b, off, x, rfl, hb, hx, hc⟩ := h1.at hlt
      have hc0 := (hbr.cell (by show b < _; omega)).trans ((hb1.cell (by exact hb)).trans (hc 0 (by omega)))
      simp only [Nat.mul_one, Nat.add_zero, encI] at hc0
      clear hc
      have HX := hide hx
      clear hx
      go_wp2_with fail
      refine Reg.region_ints' [0, 1, 0, 7, 15, 0, 32, 96, 255, 511] (by kernel_rfl) (by repeat (first | exact Reg.NoQ.body (fun _ _ h => Ending.noConfusion h.1) (fun _ h => Ending.noConfusion h.1) | refine Reg.NoQ.then ?_ | refine Reg.NoQ.inBlock ?_)) ?_
      intro Qf hQf
      go_wp2_with (go_at_call 45; refine (within_any _ _ _ _).mono ?_; rintro e w' ⟨rfl, rfl⟩)
      refine ⟨rfl, ?_⟩
      go_wp2
      · go_ret
        exact ⟨by rw [TA.valid]; dsimp only; rw [all_false HX.out (by rw [inR_inC]; simp_all)]; simp [errno], (hb1.trans (hbr.mono (by omega))).drew⟩
      · go_roundw
        case rel => exact ⟨k + 1, by omega, by go_num, all_take_succ HX.out hall (by rw [inR_inC]; simp_all), hbr.drew⟩
        case measure => simp [intOf]; omega
    · have HA := hide (all_done (by omega) hall)
      clear hall
      go_wp2_with fail
      obtain ⟨wa, rfl⟩ : ∃ wa : World, wa = wr := ⟨_, rfl⟩
      go_loopw [4] (fun i wr2 => ∃ k : Nat, k ≤ lv.length ∧ i = .int .i64 k ∧ (lv.take k).all (okLeaf L S) ∧ Below wa.heap.size wa wr2) (fun i _ => lv.length - (intOf i).toNat)
      case atStart => exact ⟨0, Nat.zero_le _, rfl, by simp, Below.refl _ _⟩
      case round =>
        obtain ⟨k, hk, rfl, hall, hbr2⟩ := hrel
        obtain ⟨hg3, hB3⟩ := box_later hbr2 hg2 hB2
        by_cases hlt : k < lv.length
        · obtain ⟨b, off, x, rfl, hb, hx, hc⟩ := h2.at hlt
          have hcc := fun j hj => (hbr2.cell (by show b < _; omega)).trans ((hbr.cell (by show b < _; omega)).trans ((hb1.cell (by exact hb)).trans (hc j hj)))
          have hc0 := hcc 0 (by omega)
          have hc1 := hcc 1 (by omega)
          simp only [Nat.add_zero, encL] at hc0 hc1
          clear hc hcc
          have HX := hide hx
          clear hx
          go_wp2_with fail
          refine Reg.region_ints' [0, 1, 0, 7, 15, 31, 0, 64, 192, 511, 1023, 2047, 4095, 8191, 4095, 32767, 65535, 131071, 4095, 266239, 790527, 2097151, 4194303, 8388607] (by kernel_rfl) (by repeat (first | exact Reg.NoQ.body (fun _ _ h => Ending.noConfusion h.1) (fun _ h => Ending.noConfusion h.1) | refine Reg.NoQ.then ?_ | refine Reg.NoQ.inBlock ?_)) ?_
          intro Qf hQf
          go_wp2_with (go_at_call 45; refine (within_any _ _ _ _).mono ?_; rintro e w' ⟨rfl, rfl⟩)
          all_goals refine ⟨rfl, ?_⟩
          all_goals go_wp2
          all_goals try rw [Bool.not_eq_true] at *
          · go_ret
            exact ⟨by rw [TA.valid]; dsimp only; rw [all_false HX.out (by rw [okLeaf, inR_inC, inR_inC]; simp_all)]; simp [errno], ((hb1.trans (hbr.mono (by omega))).trans (hbr2.mono (by omega))).drew⟩
          · go_roundw
            case rel => exact ⟨k + 1, by omega, by go_num, all_take_succ HX.out hall (by rw [okLeaf, inR_inC, inR_inC]; simp_all), hbr2.drew⟩
            case measure => simp [intOf]; omega
          · go_ret
            exact ⟨by rw [TA.valid]; dsimp only; rw [all_false HX.out (by rw [okLeaf, inR_inC, inR_inC]; simp_all)]; simp [errno], ((hb1.trans (hbr.mono (by omega))).trans (hbr2.mono (by omega))).drew⟩
        · have HA2 := hide (all_done (by omega) hall)
          clear hall
          go_wp2_with fail
          obtain ⟨wb, rfl⟩ : ∃ wb : World, wb = wr := ⟨_, rfl⟩
          go_loopw [5] (fun i wr2 => ∃ k : Nat, k ≤ br.length ∧ i = .int .i64 k ∧ (br.take k).all (okBranch L S) ∧ Below wb.heap.size wb wr2) (fun i _ => br.length - (intOf i).toNat)
          case atStart => exact ⟨0, Nat.zero_le _, rfl, by simp, Below.refl _ _⟩
          case round =>
            obtain ⟨k, hk, rfl, hall, hbr3⟩ := hrel
            obtain ⟨hg4, hB4⟩ := box_later hbr3 hg3 hB3
            by_cases hlt : k < br.length
            · obtain ⟨b, off, x, rfl, hb, hx, hc⟩ := h3.at hlt
              have hcc := fun j hj => (hbr3.cell (by show b < _; omega)).trans ((hbr2.cell (by show b < _; omega)).trans ((hbr.cell (by show b < _; omega)).trans ((hb1.cell (by exact hb)).trans (hc j hj))))
              have hc0 := hcc 0 (by omega)
              have hc1 := hcc 1 (by omega)
              have hc2 := hcc 2 (by omega)
              have hc3 := hcc 3 (by omega)
              simp only [Nat.add_zero, encBr] at hc0 hc1 hc2 hc3
              clear hc hcc
              have HX := hide hx
              clear hx
              go_wp2_with (go_at_call 45; refine (within_any _ _ _ _).mono ?_; rintro e w' ⟨rfl, rfl⟩)
              all_goals try rw [Bool.not_eq_true] at *
              · go_ret
                exact ⟨by rw [TA.valid]; dsimp only; rw [all_false HX.out (by rw [okBranch, inR_inC, inR_inC, inR_inC, inR_inC]; simp_all)]; simp [errno], (((hb1.trans (hbr.mono (by omega))).trans (hbr2.mono (by omega))).trans (hbr3.mono (by omega))).alloc (by omega) _⟩
              · go_roundw
                case rel => exact ⟨k + 1, by omega, by go_num, all_take_succ HX.out hall (by rw [okBranch, inR_inC, inR_inC, inR_inC, inR_inC]; simp_all), hbr3.alloc hbr3.size _⟩
                case measure => simp [intOf]; omega
              all_goals
                go_ret
                exact ⟨by rw [TA.valid]; dsimp only; rw [all_false HX.out (by rw [okBranch, inR_inC, inR_inC, inR_inC, inR_inC]; simp_all)]; simp [errno], (((hb1.trans (hbr.mono (by omega))).trans (hbr2.mono (by omega))).trans (hbr3.mono (by omega))).alloc (by omega) _⟩
            · have HA3 := hide (all_done (by omega) hall)
              clear hall
              go_wp2_with fail
              go_ret
              exact ⟨by rw [TA.valid, HH.out]; dsimp only; rw [HA.out, HA2.out, HA3.out]; rfl, ((hb1.trans (hbr.mono (by omega))).trans (hbr2.mono (by omega))).trans (hbr3.mono (by omega))⟩

set_option maxHeartbeats 1000000 in
set_option maxRecDepth 100000 in
theorem refValidate_any (v : Value) (a : TA) (w : World) (h : IsTA w w.heap.size v a) :
    Calls Try.prog 19 #[v] w fun e w' => e = .returned (.int .i64 (errno a.valid)) ∧ Below w.heap.size w w' := by
  by_cases hh : a.head = true
  · refine refValidate_head v a w h ?_
    simp [TA.head] at hh
    omega
  · obtain ⟨A1, c1, A2, c2, A3, c3, rfl, h1, h2, h3⟩ := h
    have hE : errno a.valid = 1 := by simp [TA.valid, hh, errno]
    rw [hE]
    have hcase : inC a.letters 1 8 = false ∨ (inC a.letters 1 8 = true ∧ inC a.states 0 64 = false) := by
      by_cases h1 : inC a.letters 1 8 = true
      · refine .inr ⟨h1, ?_⟩
        cases h2 : inC a.states 0 64
        · rfl
        · simp [inC] at h1 h2
          simp [TA.head] at hh
          omega
      · exact .inl (by simpa using h1)
    clear hh hE
    generalize a.letters = L at *
    generalize a.states = S at *
    rcases hcase with hc | ⟨hc, hc'⟩
    · have HC := hide hc
      clear hc
      go_enter Try.func19, Try.ntmps19
      go_wp2_with (go_at_call 45; refine (within_any _ _ _ _).mono ?_; rintro e w' ⟨rfl, rfl⟩; rw [HC.out])
      go_ret
      exact ⟨rfl, (Below.refl _ _).alloc (Nat.le_refl _) _⟩
    · have HC := hide hc
      have HC' := hide hc'
      clear hc hc'
      go_enter Try.func19, Try.ntmps19
      go_wp2_with (go_at_call 45; refine (within_any _ _ _ _).mono ?_; rintro e w' ⟨rfl, rfl⟩; (first | rw [HC.out] | rw [HC'.out]))
      go_ret
      exact ⟨rfl, (Below.refl _ _).alloc (Nat.le_refl _) _⟩
end Go.Proofs.Ytnimlcbgeiajiaa

namespace Go.Proofs.Ytnimlcbgeiajiaa
open Go.RowKit

set_option maxHeartbeats 2000000 in
set_option maxRecDepth 100000 in
theorem compareInts_eq {w : World} {B1 B2 c1 c2 : Nat} {A1 A2 : Option Addr} {xs : List Int} (h1 : Sl w B1 1 encI A1 xs) (h2 : Sl w B2 1 encI A2 xs) (hB1 : B1 ≤ w.heap.size) (hB2 : B2 ≤ w.heap.size) :
    Calls Try.prog 77 #[.slice A1 xs.length c1, .slice A2 xs.length c2] w (Ret fun r w' => r = .int .i64 0 ∧ Below w.heap.size w w') := by
  have hn := h1.1
  go_enter Try.func77, Try.ntmps77
  go_wp2_with fail
  go_loopw [5] (fun ii wr => ∃ (i : Nat), ii = .int .i64 (i : Int) ∧ i ≤ xs.length ∧ Below w.heap.size w wr) (fun ii _ => xs.length - (intOf ii).toNat)
  case atStart => exact ⟨0, rfl, Nat.zero_le _, Below.refl _ _⟩
  case round =>
    obtain ⟨i, rfl, hi, hB⟩ := hrel
    by_cases hlt : i < xs.length
    · obtain ⟨b1, o1, x, rfl, hb1, hx, hc1⟩ := h1.at hlt
      obtain ⟨b2, o2, y, rfl, hb2, hy, hc2⟩ := h2.at hlt
      have hxy : y = x := by rw [hx] at hy; exact (Option.some.inj hy).symm
      subst hxy
      have e1 := (hB.cell (by show b1 < _; omega)).trans (hc1 0 (by omega))
      have e2 := (hB.cell (by show b2 < _; omega)).trans (hc2 0 (by omega))
      simp only [Nat.mul_one, Nat.add_zero, encI] at e1 e2
      have hst := hide ((hB.trans ((drew_below wr).mono hB.size)).trans ((drew_below wr.drew).mono hB.size))
      clear hx hy hc1 hc2
      go_wp2_with fail
      refine Reg.region_plain [0, 0, 3, 7, 0, 0, 48, 112, 255] (by kernel_rfl) (by repeat (first | exact Reg.NoQ.body (fun _ _ h => h) (fun _ h => h) | exact Reg.NoQ.body (fun _ _ h => Ending.noConfusion h.1) (fun _ h => Ending.noConfusion h.1) | refine Reg.NoQ.then ?_ | refine Reg.NoQ.inBlock ?_)) ?_
      go_wp2_with fail
      refine Reg.region_plain [0, 0, 3, 7, 0, 0, 48, 112, 255] (by kernel_rfl) (by repeat (first | exact Reg.NoQ.body (fun _ _ h => h) (fun _ h => h) | exact Reg.NoQ.body (fun _ _ h => Ending.noConfusion h.1) (fun _ h => Ending.noConfusion h.1) | refine Reg.NoQ.then ?_ | refine Reg.NoQ.inBlock ?_)) ?_
      go_wp2_with fail
      exact ⟨⟨i + 1, by simp, by omega, hst.out⟩, by simp [intOf]; omega⟩
    · go_wp2_with fail
      go_ret
      exact ⟨rfl, hB⟩

set_option maxHeartbeats 1000000 in
theorem sameInts_eq {w : World} {B1 B2 c1 c2 : Nat} {A1 A2 : Option Addr} {xs : List Int} (h1 : Sl w B1 1 encI A1 xs) (h2 : Sl w B2 1 encI A2 xs) (hB1 : B1 ≤ w.heap.size) (hB2 : B2 ≤ w.heap.size) :
    Calls Try.prog 50 #[.slice A1 xs.length c1, .slice A2 xs.length c2] w (Ret fun r w' => r = .bool true ∧ Below w.heap.size w w') := by
  go_enter Try.func50, Try.ntmps50
  go_wp2_with (go_at_call 77; refine Calls.ret (compareInts_eq h1 h2 hB1 hB2) ?_; rintro v w2 ⟨rfl, hb⟩; have hb2 := hide hb; clear hb)
  go_ret
  exact ⟨rfl, hb2.out⟩

set_option maxHeartbeats 4000000 in
set_option maxRecDepth 100000 in
theorem sameAutomaton_eq {v1 v2 : Value} {a : TA} {w : World} (h : IsTA w w.heap.size v1 a) (h' : IsTA w w.heap.size v2 a) :
    Calls Try.prog 23 #[v1, v2] w (Ret fun r w' => r = .bool true ∧ Below w.heap.size w w') := by
  obtain ⟨A1, c1, A2, c2, A3, c3, rfl, h1, h2, h3⟩ := h
  obtain ⟨A4, c4, A5, c5, A6, c6, rfl, h4, h5, h6⟩ := h'
  obtain ⟨w1, hw1, hb1, hB1, hk1⟩ := box_blk w #[.int .i64 a.letters, .int .i64 a.states, .slice A1 a.accept.length c1, .slice A2 a.leaves.length c2, .slice A3 a.branches.length c3] 26
  obtain ⟨w2, hw2, hb2, hB2, hk2⟩ := box_blk w1 #[.int .i64 a.letters, .int .i64 a.states, .slice A4 a.accept.length c4, .slice A5 a.leaves.length c5, .slice A6 a.branches.length c6] 26
  have hsz1 := hb1.size
  have hsz2 := hb2.size
  have hb02 := hb1.trans (hb2.mono hsz1)
  have hB12 := hB1.kept hk2 id
  have hcb1 := hB12.cell
  have hcb2 := hB2.cell
  have hn1 := h1.1
  have hn2 := h2.1
  have hn3 := h3.1
  go_enter Try.func23, Try.ntmps23
  go_wp2_with fail
  go_loopw [5] (fun ii wr => ∃ (i : Nat), ii = .int .i64 (i : Int) ∧ i ≤ a.leaves.length ∧ Below w2.heap.size w2 wr) (fun ii _ => a.leaves.length - (intOf ii).toNat)
  case atStart => exact ⟨0, rfl, Nat.zero_le _, Below.refl _ _⟩
  case round =>
    obtain ⟨i, rfl, hi, hB⟩ := hrel
    have hcr1 := (hB12.kept (Kept.of_below hB (fun _ => False)) id).cell
    have hcr2 := (hB2.kept (Kept.of_below hB (fun _ => False)) id).cell
    by_cases hlt : i < a.leaves.length
    · obtain ⟨b1, o1, x, rfl, hb1', hx, hc1⟩ := h2.at hlt
      obtain ⟨b2, o2, y, rfl, hb2', hy, hc2⟩ := h5.at hlt
      have hxy : y = x := by rw [hx] at hy; exact (Option.some.inj hy).symm
      subst hxy
      have e1 := fun j hj => (hB.cell (by show b1 < _; omega)).trans ((hb02.cell (by exact hb1')).trans (hc1 j hj))
      have e2 := fun j hj => (hB.cell (by show b2 < _; omega)).trans ((hb02.cell (by exact hb2')).trans (hc2 j hj))
      have e10 := e1 0 (by omega)
      have e11 := e1 1 (by omega)
      have e20 := e2 0 (by omega)
      have e21 := e2 1 (by omega)
      simp only [Nat.add_zero, encL] at e10 e11 e20 e21
      have hst := hide (hB.trans ((drew_below wr).mono hB.size))
      clear hx hy hc1 hc2 e1 e2
      go_wp2_with fail
      refine Reg.region_plain [0, 1, 0, 7, 15, 0, 32, 0, 224, 480, 1023] (by kernel_rfl) (by repeat (first | exact Reg.NoQ.body (fun _ _ h => h) (fun _ h => h) | exact Reg.NoQ.body (fun _ _ h => Ending.noConfusion h.1) (fun _ h => Ending.noConfusion h.1) | refine Reg.NoQ.then ?_ | refine Reg.NoQ.inBlock ?_)) ?_
      go_wp2_with fail
      exact ⟨⟨i + 1, by simp, by omega, hst.out⟩, by simp [intOf]; omega⟩
    · go_wp2_with fail
      obtain ⟨wa, rfl⟩ : ∃ wa : World, wa = wr := ⟨_, rfl⟩
      have hBa := hide hB
      go_loopw [6] (fun ii wr => ∃ (i : Nat), ii = .int .i64 (i : Int) ∧ i ≤ a.branches.length ∧ Below w2.heap.size w2 wr) (fun ii _ => a.branches.length - (intOf ii).toNat)
      case atStart => exact ⟨0, rfl, Nat.zero_le _, hB⟩
      case round =>
        obtain ⟨i', rfl, hi', hB'⟩ := hrel
        have hcs1 := (hB12.kept (Kept.of_below hB' (fun _ => False)) id).cell
        have hcs2 := (hB2.kept (Kept.of_below hB' (fun _ => False)) id).cell
        by_cases hlt' : i' < a.branches.length
        · obtain ⟨b1, o1, x, rfl, hb1', hx, hc1⟩ := h3.at hlt'
          obtain ⟨b2, o2, y, rfl, hb2', hy, hc2⟩ := h6.at hlt'
          have hxy : y = x := by rw [hx] at hy; exact (Option.some.inj hy).symm
          subst hxy
          have e1 := fun j hj => (hB'.cell (by show b1 < _; omega)).trans ((hb02.cell (by exact hb1')).trans (hc1 j hj))
          have e2 := fun j hj => (hB'.cell (by show b2 < _; omega)).trans ((hb02.cell (by exact hb2')).trans (hc2 j hj))
          have e10 := e1 0 (by omega)
          have e11 := e1 1 (by omega)
          have e12 := e1 2 (by omega)
          have e13 := e1 3 (by omega)
          have e20 := e2 0 (by omega)
          have e21 := e2 1 (by omega)
          have e22 := e2 2 (by omega)
          have e23 := e2 3 (by omega)
          simp only [Nat.add_zero, encBr] at e10 e11 e12 e13 e20 e21 e22 e23
          have hst := hide (hB'.trans ((drew_below wr).mono hB'.size))
          clear hx hy hc1 hc2 e1 e2 hcr1 hcr2
          go_wp2_with fail
          refine Reg.region_plain [0, 1, 0, 7, 15, 0, 32, 0, 224, 480, 1023] (by kernel_rfl) (by repeat (first | exact Reg.NoQ.body (fun _ _ h => h) (fun _ h => h) | exact Reg.NoQ.body (fun _ _ h => Ending.noConfusion h.1) (fun _ h => Ending.noConfusion h.1) | refine Reg.NoQ.then ?_ | refine Reg.NoQ.inBlock ?_)) ?_
          go_wp2_with fail
          exact ⟨⟨i' + 1, by simp, by omega, hst.out⟩, by simp [intOf]; omega⟩
        · have hsw := hB'.size
          have hS1 := hide (((h1.below hb02).mono (show w.heap.size ≤ w2.heap.size by omega)).below hB')
          have hS4 := hide (((h4.below hb02).mono (show w.heap.size ≤ w2.heap.size by omega)).below hB')
          clear hcr1 hcr2
          go_wp2_with (go_at_call 50; refine Calls.ret (sameInts_eq hS1.out hS4.out (by omega) (by omega)) ?_; rintro v w9 ⟨rfl, hb⟩; have hb9 := hide hb; clear hb)
          go_ret
          exact ⟨rfl, (hb02.trans (hB'.mono (by omega))).trans (hb9.out.mono (by omega))⟩

def TA.small (a : TA) : Bool := !a.big && (decide (a.states ≤ 5) && decide (a.letters ≤ 3) || !a.valid)
set_option maxHeartbeats 4000000 in
set_option maxRecDepth 100000 in
theorem small_any {v : Value} {a : TA} {w : World} (h : IsTA w w.heap.size v a) :
    Calls Try.prog 24 #[v] w (Ret fun r w' => r = .bool a.small ∧ Below w.heap.size w w') := by
  obtain ⟨A1, c1, A2, c2, A3, c3, rfl, h1, h2, h3⟩ := h
  obtain ⟨w1, hw1, hb1, hB1, hk1⟩ := box_blk w #[.int .i64 a.letters, .int .i64 a.states, .slice A1 a.accept.length c1, .slice A2 a.leaves.length c2, .slice A3 a.branches.length c3] 26
  have hsz := hb1.size
  have hT : IsTA w1 w1.heap.size (.agg #[.int .i64 a.letters, .int .i64 a.states, .slice A1 a.accept.length c1, .slice A2 a.leaves.length c2, .slice A3 a.branches.length c3]) a :=
    ⟨A1, c1, A2, c2, A3, c3, rfl, (h1.below hb1).mono hsz, (h2.below hb1).mono hsz, (h3.below hb1).mono hsz⟩
  have hHT := hide hT
  have hcb := hB1.cell
  clear hT h1 h2 h3
  cases hbig : a.big
  · have hBG := hide hbig
    clear hbig
    by_cases hs5 : a.states ≤ 5 ∧ a.letters ≤ 3
    · have hfin : Hid (a.small = true) := by show _ = _; simp [TA.small, hBG.out, hs5.1, hs5.2]
      obtain ⟨hs5, hs3⟩ := hs5
      go_enter Try.func24, Try.ntmps24
      go_wp2_with (go_at_call 16; refine (Big_any _ _ _ hHT.out).mono ?_; rintro e w2 ⟨rfl, hb⟩; rw [hBG.out]; have hb2 := hide hb; have hcb2 := (hB1.kept (Kept.of_below hb (fun _ => False)) id).cell; clear hb)
      go_ret
      exact ⟨by rw [hfin.out]; rfl, hb1.trans (hb2.out.mono hsz)⟩
    · have hfin : Hid (a.small = !a.valid) := by
        show _ = _
        have : (decide (a.states ≤ 5) && decide (a.letters ≤ 3)) = false := by simp; omega
        simp only [TA.small, hBG.out, this]
        rfl
      have hHS := hide hs5
      by_cases h5 : a.states ≤ 5
      · have h3 : ¬ a.letters ≤ 3 := fun h => hHS.out ⟨h5, h⟩
        clear hs5
        cases hv : a.valid
        all_goals
          have hV := hide hv
          clear hv
          go_enter Try.func24, Try.ntmps24
          go_wp2_with (first | (go_at_call 16; refine (Big_any _ _ _ hHT.out).mono ?_; rintro e w2 ⟨rfl, hb⟩; rw [hBG.out]; have hb2 := hide hb; have hsz2 := hb.size; have hT2 := hide (hHT.out.keep (fun _ hp => hb.cell hp) hsz2); have hcb2 := (hB1.kept (Kept.of_below hb (fun _ => False)) id).cell; clear hb) | (go_at_call 19; refine (refValidate_any _ _ _ hT2.out).mono ?_; rintro e w3 ⟨rfl, hb⟩; rw [hV.out]; simp only [errno]; have hb3 := hide hb; clear hb))
          go_ret
          exact ⟨by rw [hfin.out, hV.out]; first | rfl | (simp; done) | (simp; omega), (hb1.trans (hb2.out.mono hsz)).trans (hb3.out.mono (by omega))⟩
      · clear hs5
        cases hv : a.valid
        all_goals
          have hV := hide hv
          clear hv
          go_enter Try.func24, Try.ntmps24
          go_wp2_with (first | (go_at_call 16; refine (Big_any _ _ _ hHT.out).mono ?_; rintro e w2 ⟨rfl, hb⟩; rw [hBG.out]; have hb2 := hide hb; have hsz2 := hb.size; have hT2 := hide (hHT.out.keep (fun _ hp => hb.cell hp) hsz2); have hcb2 := (hB1.kept (Kept.of_below hb (fun _ => False)) id).cell; clear hb) | (go_at_call 19; refine (refValidate_any _ _ _ hT2.out).mono ?_; rintro e w3 ⟨rfl, hb⟩; rw [hV.out]; simp only [errno]; have hb3 := hide hb; clear hb))
          go_ret
          exact ⟨by rw [hfin.out, hV.out]; first | rfl | (simp; done) | (simp; omega), (hb1.trans (hb2.out.mono hsz)).trans (hb3.out.mono (by omega))⟩
  · have hBG := hide hbig
    clear hbig
    have hfin : Hid (a.small = false) := by show _ = _; simp [TA.small, hBG.out]
    go_enter Try.func24, Try.ntmps24
    go_wp2_with (go_at_call 16; refine (Big_any _ _ _ hHT.out).mono ?_; rintro e w2 ⟨rfl, hb⟩; rw [hBG.out]; have hb2 := hide hb; clear hb)
    go_ret
    exact ⟨by rw [hfin.out]; rfl, hb1.trans (hb2.out.mono hsz)⟩
end Go.Proofs.Ytnimlcbgeiajiaa

namespace Go.Proofs.Ytnimlcbgeiajiaa
open Go.RowKit

def shGo : Int → List Int → Bool
  | o, [] => o == 0
  | o, c :: sh => o != 0 && (c == 0 || c == 2) && shGo (o + (c - 1)) sh
theorem vt_sh {L : Int} : ∀ (sh lb : List Int) (o : Int), lb.length = sh.length → vtGo L o sh lb = (shGo o sh && lb.all (inC · 0 (L - 1)))
  | [], [], o, _ => by simp [vtGo, shGo]
  | [], _ :: _, _, h => by simp at h
  | _ :: _, [], _, h => by simp at h
  | c :: sh, l :: lb, o, h => by
    have ih := vt_sh (L := L) sh lb (o + c - 1) (by simpa using h)
    have e : decide (l < L) = decide (l ≤ L - 1) := decide_eq_decide.2 (by omega)
    simp only [vtGo, shGo, List.all_cons, ih, show o + (c - 1) = o + c - 1 from by omega, e, inC]
    cases (o != 0) <;> cases (c == 0 || c == 2) <;> cases decide (0 ≤ l) <;> cases decide (l ≤ L - 1) <;> cases (shGo (o + c - 1) sh) <;> rfl
theorem shGo_step {o c : Int} {sh : List Int} {i : Nat} (hc : sh[i]? = some c) : shGo o (sh.drop i) = (o != 0 && (c == 0 || c == 2) && shGo (o + (c - 1)) (sh.drop (i + 1))) := by
  have h1 : sh.drop i = c :: sh.drop (i + 1) := by
    have := lt_of_get hc
    rw [List.drop_eq_getElem_cons this]
    rw [List.getElem?_eq_getElem this] at hc
    rw [Option.some.inj hc]
  rw [h1]
  rfl

set_option maxHeartbeats 4000000 in
set_option maxRecDepth 100000 in
theorem isShape_any {w : World} {B1 c1 : Nat} {A1 : Option Addr} {sh : List Int} (h1 : Sl w B1 1 encI A1 sh) (hs2 : sh.length ≤ 4095) :
    Calls Try.prog 80 #[.slice A1 sh.length c1] w fun e w' => e = .returned (.bool (shGo 1 sh)) ∧ w = w' := by
  go_enter Try.func80, Try.ntmps80
  go_wp2
  go_loop [3, 4] (fun oo ii => ∃ (i : Nat) (o : Int), ii = .int .i64 (i : Int) ∧ i ≤ sh.length ∧ oo = .int .i64 o ∧ 0 ≤ o ∧ o ≤ i + 1 ∧ Hid (shGo 1 sh = shGo o (sh.drop i))) (fun _ ii => sh.length - (intOf ii).toNat)
  case atStart => exact ⟨0, 1, rfl, Nat.zero_le _, rfl, by omega, by omega, rfl⟩
  case round =>
    obtain ⟨i, o, rfl, hi, rfl, ho0, ho1, hv⟩ := hrel
    by_cases hlt : i < sh.length
    · obtain ⟨b1, o1, c, rfl, hb1, hc, hcc⟩ := h1.at hlt
      have hc0 := hcc 0 (by omega)
      simp only [Nat.mul_one, Nat.add_zero, encI] at hc0
      have hst := hide (shGo_step (o := o) hc)
      clear hc hcc
      by_cases h0 : o = 0
      · subst h0
        go_wp2_with fail
        go_ret
        exact ⟨by rw [hv.out, hst.out]; rfl, rfl⟩
      · have h0' : (o == 0) = false := by simpa using h0
        by_cases hc2 : c = 0 ∨ c = 2
        · have h0n : (o != 0) = true := by simpa using h0
          rcases hc2 with rfl | rfl
          · have hfin : Hid (shGo 1 sh = shGo (o + -1) (sh.drop (i + 1))) := by
              show _ = _
              rw [hv.out, hst.out, h0n]
              rfl
            go_wp2_with fail
            exact ⟨⟨i + 1, o + -1, by simp, by omega, rfl, by omega, by omega, hfin.out⟩, by simp [intOf]; omega⟩
          · have hfin : Hid (shGo 1 sh = shGo (o + 1) (sh.drop (i + 1))) := by
              show _ = _
              rw [hv.out, hst.out, h0n]
              rfl
            go_wp2_with fail
            exact ⟨⟨i + 1, o + 1, by simp, by omega, rfl, by omega, by omega, hfin.out⟩, by simp [intOf]; omega⟩
        · have hn0 : (c != 0) = true := by simp; omega
          have hn2 : (c != 2) = true := by simp; omega
          have hfin : Hid (shGo 1 sh = false) := by
            show _ = _
            rw [hv.out, hst.out]
            have e1 : (c == 0) = false := by simp; omega
            have e2 : (c == 2) = false := by simp; omega
            simp [e1, e2]
          go_wp2_with fail
          go_ret
          exact ⟨by rw [hfin.out]; rfl, rfl⟩
    · have hfin : Hid (shGo 1 sh = (o == 0)) := by
        show _ = _
        rw [hv.out, List.drop_eq_nil_of_le (by omega)]
        rfl
      go_wp2_with fail
      go_ret
      exact ⟨by rw [hfin.out]; rfl, rfl⟩

set_option maxHeartbeats 4000000 in
set_option maxRecDepth 100000 in
theorem refValidTree_any {w : World} {B1 B2 c1 c2 : Nat} {A1 A2 : Option Addr} {L : Int} {sh lb : List Int} (h1 : Sl w B1 1 encI A1 sh) (h2 : Sl w B2 1 encI A2 lb) (hL : 1 ≤ L ∧ L ≤ 8) :
    Calls Try.prog 55 #[.int .i64 L, .slice A1 sh.length c1, .slice A2 lb.length c2] w fun e w' => e = .returned (.bool (validT L sh lb)) ∧ w = w' := by
  have hn1 := h1.1
  have hn2 := h2.1
  obtain ⟨hL1, hL8⟩ := hL
  cases hw : inC sh.length 1 4095
  · have hv : Hid (validT L sh lb = false) := by
      show _ = _
      simp [inC] at hw
      simp [validT]
      omega
    have hW := hide hw
    clear hw
    go_enter Try.func55, Try.ntmps55
    go_wp2_with (go_at_call 45; refine (within_any _ _ _ _).mono ?_; rintro e w' ⟨rfl, rfl⟩; rw [hW.out])
    go_ret
    exact ⟨by rw [hv.out]; rfl, rfl⟩
  · have hs2 : sh.length ≤ 4095 ∧ 1 ≤ sh.length := by simp [inC] at hw; omega
    have hW := hide hw
    clear hw
    by_cases hl : lb.length = sh.length
    · have hv0 : Hid (validT L sh lb = (shGo 1 sh && lb.all (inC · 0 (L - 1)))) := by
        show _ = _
        rw [← vt_sh sh lb 1 hl]
        simp [validT, hl, hs2.1, hs2.2]
      have hLl := hide hl
      rw [hl]
      cases hsh : shGo 1 sh
      · have hS := hide hsh
        clear hsh hl
        go_enter Try.func55, Try.ntmps55
        go_wp2_with (first | (go_at_call 45; refine (within_any _ _ _ _).mono ?_; rintro e w' ⟨rfl, rfl⟩; rw [hW.out]) | (go_at_call 80; refine (isShape_any h1 hs2.1).mono ?_; rintro e w' ⟨rfl, rfl⟩; rw [hS.out]))
        go_ret
        exact ⟨by rw [hv0.out, hS.out]; rfl, rfl⟩
      · have hS := hide hsh
        clear hsh hl
        go_enter Try.func55, Try.ntmps55
        go_wp2_with (first | (go_at_call 45; refine (within_any _ _ _ _).mono ?_; rintro e w' ⟨rfl, rfl⟩; rw [hW.out]) | (go_at_call 80; refine (isShape_any h1 hs2.1).mono ?_; rintro e w' ⟨rfl, rfl⟩; rw [hS.out]))
        go_loop [7] (fun ii => ∃ (i : Nat), ii = .int .i64 (i : Int) ∧ i ≤ sh.length ∧ Hid ((lb.take i).all (inC · 0 (L - 1)) = true)) (fun ii => sh.length - (intOf ii).toNat)
        case atStart => exact ⟨0, rfl, Nat.zero_le _, rfl⟩
        case round =>
          obtain ⟨i, rfl, hi, hE⟩ := hrel
          by_cases hlt : i < sh.length
          · obtain ⟨b, off, q, rfl, hbb, hx, hc⟩ := h2.at (k := i) (by rw [hLl.out]; exact hlt)
            have hc0 := hc 0 (by omega)
            simp only [Nat.mul_one, Nat.add_zero, encI] at hc0
            have hX := hide hx
            clear hx hc
            cases hq : inC q 0 (L - 1)
            · have hQ := hide hq
              clear hq
              go_wp2_with (go_at_call 45; refine (within_any _ _ _ _).mono ?_; rintro e w' ⟨rfl, rfl⟩; rw [hQ.out])
              go_ret
              exact ⟨by rw [hv0.out, hS.out, all_false hX.out hQ.out]; rfl, rfl⟩
            · have hQ := hide hq
              clear hq
              go_wp2_with (go_at_call 45; refine (within_any _ _ _ _).mono ?_; rintro e w' ⟨rfl, rfl⟩; rw [hQ.out])
              exact ⟨⟨i + 1, by go_num, by omega, all_take_succ hX.out hE.out hQ.out⟩, by simp [intOf]; omega⟩
          · have hA := hide (all_done (by rw [hLl.out]; omega) hE.out)
            go_wp2_with fail
            go_ret
            exact ⟨by rw [hv0.out, hS.out, hA.out]; rfl, rfl⟩
    · have hv : Hid (validT L sh lb = false) := by show _ = _; simp [validT, hl]
      have hne : ((lb.length : Int) != (sh.length : Int)) = true := by simp; omega
      clear hl
      go_enter Try.func55, Try.ntmps55
      go_wp2_with (go_at_call 45; refine (within_any _ _ _ _).mono ?_; rintro e w' ⟨rfl, rfl⟩; rw [hW.out])
      go_ret
      exact ⟨by rw [hv.out]; rfl, rfl⟩
end Go.Proofs.Ytnimlcbgeiajiaa

namespace Go.Proofs.Ytnimlcbgeiajiaa
open Go.RowKit

/-- Marks and a word say the same of all states. -/
def SameM (S : Nat) (m : List Bool) (M : Nat) : Prop := m.length = S ∧ ∀ q, q < S → m[q]?.getD false = M.testBit q
theorem SameM.zero (S : Nat) : SameM S (List.replicate S false) 0 := ⟨by simp, fun q hq => by simp [hq]⟩
theorem SameM.set {S : Nat} {m : List Bool} {M : Nat} (h : SameM S m M) {q : Int} (h0 : 0 ≤ q) (hq : q < S) : SameM S (setM m q) (setB M q) := by
  obtain ⟨q, rfl⟩ := Int.eq_ofNat_of_zero_le h0
  refine ⟨by rw [setM_len]; exact h.1, fun j hj => ?_⟩
  simp only [setM, setB, mOr, mPow, Int.toNat_natCast]
  rw [Nat.testBit_or, Nat.testBit_two_pow, List.getElem?_set]
  by_cases e : q = j
  · subst e
    simp [h.1, hj]
  · simp [e, h.2 j hj]
theorem SameM.bit {S : Nat} {m : List Bool} {M : Nat} (h : SameM S m M) {q : Int} (h0 : 0 ≤ q) (hq : q < S) : bitM m q = mBit M q := h.2 q.toNat (by omega)
theorem sameM_leaf {S : Nat} (x : Nat) : ∀ (l : List Leaf) (m : List Bool) (M : Nat), SameM S m M → (∀ e ∈ l, 0 ≤ e.to ∧ e.to < S) → SameM S (l.foldl (leafF x) m) (l.foldl (leafMF x) M)
  | [], _, _, h, _ => h
  | e :: l, m, M, h, hl => by
    refine sameM_leaf x l _ _ ?_ (fun e' he' => hl e' (List.mem_cons_of_mem _ he'))
    have := hl e List.mem_cons_self
    by_cases hx : e.letter = (x : Int)
    · simp only [leafF, leafMF, hx, if_true]
      exact h.set this.1 this.2
    · simp only [leafF, leafMF, hx, if_false]
      exact h
theorem sameM_br {S : Nat} (x : Nat) {s t : List Bool} {s' t' : Nat} (hs : SameM S s s') (ht : SameM S t t') : ∀ (l : List Branch) (m : List Bool) (M : Nat), SameM S m M →
    (∀ e ∈ l, (0 ≤ e.first ∧ e.first < S) ∧ (0 ≤ e.second ∧ e.second < S) ∧ (0 ≤ e.to ∧ e.to < S)) → SameM S (l.foldl (brF x s t) m) (l.foldl (brMF x s' t') M)
  | [], _, _, h, _ => h
  | e :: l, m, M, h, hl => by
    refine sameM_br x hs ht l _ _ ?_ (fun e' he' => hl e' (List.mem_cons_of_mem _ he'))
    obtain ⟨⟨h1, h2⟩, ⟨h3, h4⟩, h5, h6⟩ := hl e List.mem_cons_self
    simp only [brF, brMF, hs.bit h1 h2, ht.bit h3 h4]
    split
    · exact h.set h5 h6
    · exact h

def TA.marks (a : TA) (t : Tr) : List Bool := runT (leafR a.states.toNat a.leaves) (brR a.states.toNat a.branches) t
theorem TA.same_marks {a : TA} (hv : a.valid = true) (t : Tr) : SameM a.states.toNat (a.marks t) (a.mask t) := by
  simp only [TA.valid, TA.head, Bool.and_eq_true, decide_eq_true_eq] at hv
  obtain ⟨⟨⟨⟨⟨⟨-, -⟩, h3⟩, -⟩, -⟩, h6⟩, h7⟩ := hv
  have hl : ∀ e ∈ a.leaves, 0 ≤ e.to ∧ e.to < (a.states.toNat : Int) := fun e he => by
    have := List.all_eq_true.1 h6 e he
    simp only [okLeaf, inR, Bool.and_eq_true, decide_eq_true_eq] at this
    omega
  have hb : ∀ e ∈ a.branches, (0 ≤ e.first ∧ e.first < (a.states.toNat : Int)) ∧ (0 ≤ e.second ∧ e.second < (a.states.toNat : Int)) ∧ (0 ≤ e.to ∧ e.to < (a.states.toNat : Int)) := fun e he => by
    have := List.all_eq_true.1 h7 e he
    simp only [okBranch, inR, Bool.and_eq_true, decide_eq_true_eq] at this
    omega
  induction t with
  | leaf x => exact sameM_leaf x a.leaves _ _ (SameM.zero _) hl
  | node x s t ihs iht =>
    have := sameM_br x ihs iht a.branches _ _ (SameM.zero _) hb
    have e : a.mask (.node x s t) = a.branches.foldl (brMF x (a.mask s) (a.mask t)) 0 := by
      show brM _ _ _ = _
      unfold brM
      rw [brM_filter]
      rfl
    rw [e]
    exact this
theorem any_eq {l : List Int} {f g : Int → Bool} (h : ∀ q ∈ l, f q = g q) : l.any f = l.any g := by
  induction l with
  | nil => rfl
  | cons q l ih => rw [List.any_cons, List.any_cons, h q List.mem_cons_self, ih fun q' hq' => h q' (List.mem_cons_of_mem _ hq')]
theorem TA.lang_marks {a : TA} (hv : a.valid = true) (t : Tr) : meetsR a.accept (a.marks t) = a.lang t := by
  have h := TA.same_marks hv t
  obtain ⟨-, -, h3, -, h5, h6, -, -⟩ := TA.valid_parts hv
  have : a.lang t = a.accept.any (mBit (a.mask t)) := accS_any a _ fun q hq => (h6 q hq).1
  rw [this]
  refine any_eq fun q hq => ?_
  have := List.all_eq_true.1 h5 q hq
  simp only [inR, Bool.and_eq_true, decide_eq_true_eq] at this
  exact h.bit this.1 (by omega)

/-- The marks of the subtrees that wait, in memory. -/
structure KeptM (w : World) (base : Nat) (a : TA) (kk : Value) (us : List Value) (s : List Tr) : Prop where
  own : w.ownsRow base 79 1 kk s.length us
  row : ∀ (i : Nat) (u : Value) (t : Tr), us[i]? = some u → s.reverse[i]? = some t → Marks w w.heap.size a.states.toNat u (a.marks t)
theorem KeptM.len {w : World} {base : Nat} {a : TA} {kk : Value} {us : List Value} {s : List Tr} (h : KeptM w base a kk us s) : us.length = s.length := by simpa using h.own.1
theorem KeptM.keep {w w' : World} {base : Nat} {a : TA} {kk : Value} {us : List Value} {s : List Tr} (h : KeptM w base a kk us s) (hk : Kept w w' (fun _ => False)) : KeptM w' base a kk us s :=
  ⟨hk.ownsRow h.own (fun _ _ => id), fun i u t hu ht => ((h.row i u t hu ht).keep0 hk).mono hk.size⟩
theorem KeptM.push {w w' : World} {base : Nat} {a : TA} {kk kk' u : Value} {us : List Value} {s : List Tr} {t : Tr} (h : KeptM w base a kk us s) (hu : Marks w w.heap.size a.states.toNat u (a.marks t)) (hk : Kept w w' (fun k => kk.ownBlock = some k)) (hown : w'.ownsRow base 79 1 kk' (s.length + 1) (us ++ [u])) : KeptM w' base a kk' (us ++ [u]) (t :: s) := by
  have hX : ∀ g cs, kk.ownBlock = some g → g < w.heap.size → ¬ Blk w g 4 cs := fun g cs hx _ hb => own_blk_ne h.own hb (by decide) hx
  refine ⟨by simpa using hown, fun i u' t' hu' ht' => ?_⟩
  rw [List.reverse_cons] at ht'
  rcases Nat.lt_trichotomy i s.length with hlt | heq | hgt
  · rw [List.getElem?_append_left (by rw [h.len]; exact hlt)] at hu'
    rw [List.getElem?_append_left (by simpa using hlt)] at ht'
    exact ((h.row i u' t' hu' ht').keep hk hX).mono hk.size
  · rw [List.getElem?_append_right (by rw [h.len]; omega), h.len, heq, Nat.sub_self] at hu'
    rw [List.getElem?_append_right (by simp; omega), List.length_reverse, heq, Nat.sub_self] at ht'
    have e1 := Option.some.inj hu'
    have e2 := Option.some.inj ht'
    subst e1 e2
    exact (hu.keep hk hX).mono hk.size
  · rw [List.getElem?_eq_none (by simp; omega)] at ht'
    cases ht'
theorem KeptM.pop2 {w : World} {base : Nat} {a : TA} {g cap : Nat} {us : List Value} {t1 t2 : Tr} {r : List Tr} (h : KeptM w base a (.slice (some ⟨g, 0, none⟩) (r.length + 1 + 1) cap) us (t1 :: t2 :: r)) : KeptM w base a (.slice (some ⟨g, 0, none⟩) r.length cap) (us.take r.length) r := by
  refine ⟨by simpa using own_shrink (m := r.length) h.own (by omega), fun i u t hu ht => ?_⟩
  have hi : i < r.length := by have := lt_of_get ht; simpa using this
  refine h.row i u t ?_ ?_
  · rw [List.getElem?_take] at hu
    simpa [hi] using hu
  · simp only [List.reverse_cons, List.append_assoc]
    rw [List.getElem?_append_left (by simpa using hi)]
    exact ht
theorem KeptM.top {w : World} {base : Nat} {a : TA} {kk : Value} {us : List Value} {t1 t2 : Tr} {r : List Tr} (h : KeptM w base a kk us (t1 :: t2 :: r)) :
    ∃ u1 u2, us[r.length + 1]? = some u1 ∧ us[r.length]? = some u2 ∧ Marks w w.heap.size a.states.toNat u1 (a.marks t1) ∧ Marks w w.heap.size a.states.toNat u2 (a.marks t2) := by
  have hl := h.len
  obtain ⟨u1, hu1⟩ := get_lt (l := us) (i := r.length + 1) (by simp at hl; omega)
  obtain ⟨u2, hu2⟩ := get_lt (l := us) (i := r.length) (by simp at hl; omega)
  refine ⟨u1, u2, hu1, hu2, h.row _ _ _ hu1 ?_, h.row _ _ _ hu2 ?_⟩
  · simp
  · simp

end Go.Proofs.Ytnimlcbgeiajiaa

namespace Go.Proofs.Ytnimlcbgeiajiaa
open Go.RowKit

set_option maxHeartbeats 8000000 in
set_option maxRecDepth 100000 in
theorem refaccepts_any {v : Value} {a : TA} {w : World} {B1 B2 c1' c2' : Nat} {D1 D2 : Option Addr} {sh lb : List Int} (h : IsTA w w.heap.size v a) (hs : Sl w B1 1 encI D1 sh) (hl : Sl w B2 1 encI D2 lb) (hB1 : B1 ≤ w.heap.size) (hB2 : B2 ≤ w.heap.size)
    (hv : a.valid = true) (hvt : validT a.letters sh lb = true) :
    Calls Try.prog 56 #[v, .slice D1 sh.length c1', .slice D2 lb.length c2'] w (Ret fun r w' => r = .bool (a.lang (treeOf sh lb)) ∧ Below w.heap.size w w') := by
  obtain ⟨A1, c1, A2, c2, A3, c3, rfl, h1, h2, h3⟩ := h
  obtain ⟨w1, hw1, hb1, hB, hk1⟩ := box_blk w #[.int .i64 a.letters, .int .i64 a.states, .slice A1 a.accept.length c1, .slice A2 a.leaves.length c2, .slice A3 a.branches.length c3] 26
  have hsz := hb1.size
  have hT : IsTA w1 w1.heap.size (.agg #[.int .i64 a.letters, .int .i64 a.states, .slice A1 a.accept.length c1, .slice A2 a.leaves.length c2, .slice A3 a.branches.length c3]) a :=
    ⟨A1, c1, A2, c2, A3, c3, rfl, (h1.below hb1).mono hsz, (h2.below hb1).mono hsz, (h3.below hb1).mono hsz⟩
  have hHT := hide hT
  have hn1 := h1.1
  have hns := hs.1
  have hnl := hl.1
  clear hT
  have hV := hide hv
  clear hv
  obtain ⟨hst, hok, hlen, hn1', hn2'⟩ := validT_tree hvt
  have hgo : vtGo a.letters 1 sh lb = true := by
    simp only [validT, Bool.and_eq_true] at hvt
    exact hvt.2
  have hST := hide hst
  have hGO := hide hgo
  have hLEN := hide hlen
  clear hvt hst hgo hlen
  obtain ⟨hL1, hL8, hS0, hS64, hacc, -, -, -⟩ := TA.valid_parts hV.out
  have hACC := hide hacc
  clear hacc
  go_enter Try.func56, Try.ntmps56
  go_wp2_with fail
  go_loopw [7, 8] (fun kk ii wr => ∃ (i : Nat) (s : List Tr) (us : List Value), ii = .int .i64 ((i : Int) - 1) ∧ i ≤ sh.length ∧ Hid (stk (sh.drop i) (lb.drop i) = some s) ∧ Hid (KeptM wr w1.heap.size a kk us s) ∧ Hid (i + s.length ≤ sh.length + 1) ∧ Below w1.heap.size w1 wr) (fun _ ii _ => (intOf ii + 1).toNat)
  case atStart => exact ⟨sh.length, [], [], rfl, Nat.le_refl _, stk_nil_at (Nat.le_refl _), ⟨own_nil, fun i u t h => by simp at h⟩, Nat.le_succ _, Below.refl _ _⟩
  case round =>
    obtain ⟨i, s, us, rfl, hi, hs3, hown, hsl, hbr⟩ := hrel
    have hBr := hB.kept (Kept.of_below hbr (fun _ => False)) id
    have hcbr := hBr.cell
    have hszr := hbr.size
    obtain ⟨A, c, rfl⟩ := slice_of_own hown.out.own
    have hszd : wr.drew.heap.size = wr.heap.size := rfl
    have hownd := hide (hown.out.keep (Kept.refl wr (fun _ => False)).drew)
    by_cases hlt : 0 < i
    · obtain ⟨k, rfl⟩ : ∃ k, i = k + 1 := ⟨i - 1, by omega⟩
      rw [show (((k + 1 : Nat) : Int) - 1) = (k : Int) from by omega]
      obtain ⟨cd, l, s', hc, hl', hl0, hs', hcase⟩ := stk_at sh lb 1 (by omega) hGO.out k (by omega)
      have hss : s' = s := by
        have := hs3.out
        rw [hs'] at this
        exact Option.some.inj this
      subst hss
      obtain ⟨x, rfl⟩ := Int.eq_ofNat_of_zero_le hl0
      simp only [Int.toNat_natCast] at hcase
      obtain ⟨b1, o1, c', rfl, hb1', hc', hcc⟩ := hs.at (k := k) (by omega)
      obtain ⟨b2, o2, l', rfl, hb2', hl'', hlc⟩ := hl.at (k := k) (by rw [hLEN.out]; omega)
      rw [hc] at hc'
      rw [hl'] at hl''
      injection hc' with hc'
      injection hl'' with hl''
      subst hc' hl''
      have hc0 := (hbr.cell (by show b1 < _; omega)).trans ((hb1.cell (by show b1 < _; omega)).trans (hcc 0 (by omega)))
      have hl0' := (hbr.cell (by show b2 < _; omega)).trans ((hb1.cell (by show b2 < _; omega)).trans (hlc 0 (by omega)))
      simp only [Nat.mul_one, Nat.add_zero, encI] at hc0 hl0'
      have hTr : IsTA wr.drew wr.drew.heap.size (.agg #[.int .i64 a.letters, .int .i64 a.states, .slice A1 a.accept.length c1, .slice A2 a.leaves.length c2, .slice A3 a.branches.length c3]) a := hHT.out.keep (fun _ hp => hbr.drew.cell hp) hszr
      have hTR := hide hTr
      have hkl := hLEN.out
      have hKL := hide hkl
      have hklb : k < lb.length := by omega
      clear hc hl' hs' hcc hlc hl0 hTr hs3 hkl
      have hcount := hsl.out
      rcases hcase with ⟨rfl, hnext⟩ | ⟨rfl, t1, t2, r, rfl, hnext⟩
      · have hNX := hide hnext
        clear hnext
        go_wp2_with fail
        refine Reg.region_plain [0, 0, 0, 0, 12, 28, 62, 126, 255, 511] (by kernel_rfl) (by repeat (first | exact Reg.NoQ.body (fun _ _ h => h) (fun _ h => h) | refine Reg.NoQ.then ?_ | refine Reg.NoQ.inBlock ?_)) ?_
        go_wp2_with (first | (go_at_call 81; refine Calls.ret (refLeaf_any _ a _ x hTR.out hV.out) ?_; rintro v w3 ⟨hb3, hM⟩; have hM3 := hide hM; have hb33 := hide hb3; have hsz3 := hb3.size; have hbase3 : w1.heap.size ≤ w3.heap.size := by omega
                              have hK3 := hide (hownd.out.keep (Kept.of_below hb3 (fun _ => False))); obtain ⟨gv, -, rfl, -, -⟩ := hM; clear hb3) | (at_builtin; refine wpList_app_new row111 rfl _ _ rfl w1.heap.size (.slice A s'.length c) s'.length _ rfl hK3.out.own [.slice (some ⟨gv, 0, none⟩) a.states.toNat a.states.toNat] 1 rfl rfl (by simp [Value.oneCell']) (by omega) hbase3 ?_; intro g cap' w4 hown4 hk4 hmv4 hg4))
        refine ⟨⟨k, .leaf x :: s', us ++ [.slice (some ⟨gv, 0, none⟩) a.states.toNat a.states.toNat], by go_num, by omega, hNX.out, ?_, by show _ ≤ _; simp; omega, ?_⟩, by simp [intOf]⟩
        · exact hK3.out.push hM3.out hk4 hown4
        · refine (hbr.drew.trans (hb33.out.mono hszr)).trans (hk4.below hbase3 (fun b hb e => ?_))
          have := own_base hK3.out.own e
          omega
      · have hNX := hide hnext
        clear hnext
        simp only [List.length_cons] at *
        obtain ⟨u1, u2, hu1, hu2, hM1, hM2⟩ := hownd.out.top
        obtain ⟨g, cap, hv1, hcl1⟩ := own_get hown.out.own hu1
        obtain ⟨g', cap', hv2, hcl2⟩ := own_get hown.out.own hu2
        injection hv1 with hv1 hv1l hv1c
        injection hv2 with hv2 hv2l hv2c
        subst hv1 hv1c hv2c
        injection hv2 with hv2
        injection hv2 with hv2
        subst hv2
        clear hv1l hv2l
        have hcap := own_cap hown.out.own
        have hMM1 := hide hM1
        have hMM2 := hide hM2
        obtain ⟨gu1, -, rfl, -, -⟩ := hM1
        obtain ⟨gu2, -, rfl, -, -⟩ := hM2
        clear hu1 hu2
        go_wp2_with fail
        refine Reg.region_ints' [0, 0, 0, 6, 14, 0, 0, 64, 224, 480, 0, 0, 2048, 7168, 15360, 32767, 65535] (by kernel_rfl) (by repeat (first | exact Reg.NoQ.body (fun _ _ h => h) (fun _ h => h) | refine Reg.NoQ.then ?_ | refine Reg.NoQ.inBlock ?_)) ?_
        intro Qf hQf
        go_wp2_with (go_at_call 82; refine Calls.ret (refBranch_any _ _ _ a _ _ _ x _ _ hTR.out hV.out hMM1.out hMM2.out) ?_; rintro v w3 ⟨hb3, hM⟩; have hM3 := hide hM; have hb33 := hide hb3; have hsz3 := hb3.size; have hbase3 : w1.heap.size ≤ w3.heap.size := by omega
                     have hK3 := hide (hownd.out.keep (Kept.of_below hb3 (fun _ => False))); obtain ⟨gv, -, rfl, -, -⟩ := hM; clear hb3)
        refine ⟨rfl, ?_⟩
        have hK5 := hide hK3.out.pop2
        go_wp2_with (at_builtin; refine wpList_app_new row111 rfl _ _ rfl w1.heap.size (.slice (some ⟨g, 0, none⟩) r.length c) r.length _ rfl hK5.out.own [.slice (some ⟨gv, 0, none⟩) a.states.toNat a.states.toNat] 1 rfl rfl (by simp [Value.oneCell']) (by omega) hbase3 ?_; intro g2 cap' w4 hown4 hk4 hmv4 hg4)
        refine ⟨⟨k, .node x t1 t2 :: r, us.take r.length ++ [.slice (some ⟨gv, 0, none⟩) a.states.toNat a.states.toNat], by go_num, by omega, hNX.out, ?_, by show _ ≤ _; simp; omega, ?_⟩, by simp [intOf]⟩
        · exact hK5.out.push hM3.out hk4 hown4
        · refine (hbr.drew.trans (hb33.out.mono hszr)).trans (hk4.below hbase3 (fun b hb e => ?_))
          have := own_base hK5.out.own e
          omega
    · have hi0 : i = 0 := by omega
      subst hi0
      rw [show (((0 : Nat) : Int) - 1) = -1 from rfl]
      have hs4 : s = [treeOf sh lb] := by
        have := hs3.out
        rw [List.drop_zero, List.drop_zero, hST.out] at this
        exact (Option.some.inj this).symm
      subst hs4
      obtain ⟨u, hu⟩ := get_lt (l := us) (i := 0) (by rw [hown.out.len]; simp)
      have hMd := hide (hownd.out.row 0 u (treeOf sh lb) hu (by simp))
      obtain ⟨g, cap, hv1, hcl⟩ := own_get hown.out.own hu
      injection hv1 with hv1 _ hv1c
      subst hv1 hv1c
      obtain ⟨gu, -, rfl, -, -⟩ := hMd.out
      have hbW := hide (hb1.trans (hbr.drew.mono hsz))
      have hSa := hide ((h1.below hbW.out).mono (B' := wr.drew.heap.size) (by omega))
      have hS' : (a.states.toNat : Int) = a.states := by omega
      have hACC' := hACC.out
      rw [← hS'] at hACC'
      have hAC := hide hACC'
      clear hs3 hown hsl hownd hu hACC'
      go_wp2_with fail
      refine Reg.region_plain [0, 1, 3, 0, 8, 31, 63] (by kernel_rfl) (by repeat (first | exact Reg.NoQ.body (fun _ _ h => h) (fun _ h => h) | refine Reg.NoQ.then ?_ | refine Reg.NoQ.inBlock ?_)) ?_
      go_wp2_with (go_at_call 83; refine (refMeets_any hMd.out hSa.out hAC.out).mono ?_; rintro e w3 ⟨rfl, rfl⟩; rw [TA.lang_marks hV.out])
      go_ret
      exact ⟨rfl, hbW.out⟩
end Go.Proofs.Ytnimlcbgeiajiaa

namespace Go.Proofs.Ytnimlcbgeiajiaa
open Go.RowKit

set_option maxHeartbeats 8000000 in
set_option maxRecDepth 100000 in
theorem refAccepts_any {v : Value} {a : TA} {w : World} {B1 B2 c1' c2' : Nat} {D1 D2 : Option Addr} {sh lb : List Int} (h : IsTA w w.heap.size v a) (hs : Sl w B1 1 encI D1 sh) (hl : Sl w B2 1 encI D2 lb) (hB1 : B1 ≤ w.heap.size) (hB2 : B2 ≤ w.heap.size) :
    Calls Try.prog 29 #[v, .slice D1 sh.length c1', .slice D2 lb.length c2'] w (Ret fun r w' => r = accT a sh lb ∧ Below w.heap.size w w') := by
  obtain ⟨A1, c1, A2, c2, A3, c3, rfl, h1, h2, h3⟩ := h
  obtain ⟨w1, hw1, hb1, hB, hk1⟩ := box_blk w #[.int .i64 a.letters, .int .i64 a.states, .slice A1 a.accept.length c1, .slice A2 a.leaves.length c2, .slice A3 a.branches.length c3] 26
  have hsz := hb1.size
  have hT : IsTA w1 w1.heap.size (.agg #[.int .i64 a.letters, .int .i64 a.states, .slice A1 a.accept.length c1, .slice A2 a.leaves.length c2, .slice A3 a.branches.length c3]) a :=
    ⟨A1, c1, A2, c2, A3, c3, rfl, (h1.below hb1).mono hsz, (h2.below hb1).mono hsz, (h3.below hb1).mono hsz⟩
  have hHT := hide hT
  have hcb := hB.cell
  clear hT
  cases hv : a.valid
  · have hV := hide hv
    clear hv
    have he : Hid (accT a sh lb = .tuple #[.bool false, .int .i64 1]) := by show _ = _; simp [accT, hV.out]
    go_enter Try.func29, Try.ntmps29
    go_wp2_with (go_at_call 19; refine (refValidate_any _ _ _ hHT.out).mono ?_; rintro e w2 ⟨rfl, hb⟩; rw [hV.out]; simp only [errno]; have hb2 := hide hb; clear hb)
    go_ret2
    exact ⟨he.out.symm, hb1.trans (hb2.out.mono hsz)⟩
  · have hV := hide hv
    clear hv
    obtain ⟨hL1, hL8, -, -, -, -, -, -⟩ := TA.valid_parts hV.out
    cases hvt : validT a.letters sh lb
    · have hVT := hide hvt
      clear hvt
      have he : Hid (accT a sh lb = .tuple #[.bool false, .int .i64 1]) := by show _ = _; simp [accT, hVT.out]
      go_enter Try.func29, Try.ntmps29
      go_wp2_with (first | (go_at_call 19; refine (refValidate_any _ _ _ hHT.out).mono ?_; rintro e w2 ⟨rfl, hb⟩; rw [hV.out]; simp only [errno]; have hb2 := hide hb; have hcb2 := (hB.kept (Kept.of_below hb (fun _ => False)) id).cell; have hs2 := hide ((hs.mono hB1).below (hb1.trans (hb.mono hsz))); have hl2 := hide ((hl.mono hB2).below (hb1.trans (hb.mono hsz))); clear hb) | (go_at_call 55; refine (refValidTree_any hs2.out hl2.out ⟨hL1, hL8⟩).mono ?_; rintro e w3 ⟨rfl, rfl⟩; rw [hVT.out]))
      go_ret2
      exact ⟨he.out.symm, hb1.trans (hb2.out.mono hsz)⟩
    · have hVT := hide hvt
      clear hvt
      have he : Hid (accT a sh lb = .tuple #[.bool (a.lang (treeOf sh lb)), .int .i64 0]) := by show _ = _; simp [accT, hV.out, hVT.out]
      go_enter Try.func29, Try.ntmps29
      go_wp2_with (first | (go_at_call 19; refine (refValidate_any _ _ _ hHT.out).mono ?_; rintro e w2 ⟨rfl, hb⟩; rw [hV.out]; simp only [errno]; have hb2 := hide hb; have hsz2 := hb.size; have hT2 := hide (hHT.out.keep (fun _ hp => hb.cell hp) hsz2); have hcb2 := (hB.kept (Kept.of_below hb (fun _ => False)) id).cell; have hs2 := hide ((hs.mono hB1).below (hb1.trans (hb.mono hsz))); have hl2 := hide ((hl.mono hB2).below (hb1.trans (hb.mono hsz))); clear hb) | (go_at_call 55; refine (refValidTree_any hs2.out hl2.out ⟨hL1, hL8⟩).mono ?_; rintro e w3 ⟨rfl, rfl⟩; rw [hVT.out])
                         | (go_at_call 56; refine Calls.ret (refaccepts_any hT2.out hs2.out hl2.out (by omega) (by omega) hV.out hVT.out) ?_; rintro v w4 ⟨rfl, hb4⟩; have hb44 := hide hb4; clear hb4))
      go_ret2
      exact ⟨he.out.symm, (hb1.trans (hb2.out.mono hsz)).trans (hb44.out.mono (by omega))⟩

set_option maxHeartbeats 4000000 in
theorem long_any {w : World} {B1 B2 c1 c2 : Nat} {A1 A2 : Option Addr} {sh lb : List Int} (h1 : Sl w B1 1 encI A1 sh) (h2 : Sl w B2 1 encI A2 lb) :
    Calls Try.prog 27 #[.agg #[.slice A1 sh.length c1, .slice A2 lb.length c2]] w (Ret fun r w' => r = .bool (decide (60 < sh.length) || decide (60 < lb.length)) ∧ Below w.heap.size w w') := by
  have hn1 := h1.1
  have hn2 := h2.1
  clear h1 h2
  by_cases hs : 60 < sh.length
  · go_enter Try.func27, Try.ntmps27
    go_wp2_with fail
    go_ret
    exact ⟨by simp, (Below.refl _ _).alloc (Nat.le_refl _) _⟩
  · by_cases hl : 60 < lb.length
    · go_enter Try.func27, Try.ntmps27
      go_wp2_with fail
      go_ret
      exact ⟨by simp [hl]; omega, (Below.refl _ _).alloc (Nat.le_refl _) _⟩
    · go_enter Try.func27, Try.ntmps27
      go_wp2_with fail
      go_ret
      exact ⟨by simp [hl, hs]; omega, (Below.refl _ _).alloc (Nat.le_refl _) _⟩

set_option maxHeartbeats 8000000 in
set_option maxRecDepth 100000 in
theorem lawAccepts {v : Value} {a : TA} {w : World} {c1' c2' : Nat} {D1 D2 : Option Addr} {sh lb : List Int} (h : IsTA w w.heap.size v a) (hs : Sl w w.heap.size 1 encI D1 sh) (hl : Sl w w.heap.size 1 encI D2 lb) :
    Calls Try.prog 6 #[v, .agg #[.slice D1 sh.length c1', .slice D2 lb.length c2']] w (Ret fun v w' => v = .bool true ∧ Below w.heap.size w w') := by
  obtain ⟨A1, c1, A2, c2, A3, c3, rfl, h1, h2, h3⟩ := h
  obtain ⟨w1, hw1, hb1, hB1, hk1⟩ := box_blk w #[.int .i64 a.letters, .int .i64 a.states, .slice A1 a.accept.length c1, .slice A2 a.leaves.length c2, .slice A3 a.branches.length c3] 26
  obtain ⟨w2, hw2, hb2, hB2, hk2⟩ := box_blk w1 #[.slice D1 sh.length c1', .slice D2 lb.length c2'] 40
  have hsz1 := hb1.size
  have hsz2 := hb2.size
  have hb02 := hb1.trans (hb2.mono hsz1)
  have hB12 := hB1.kept hk2 id
  have hcb1 := hB12.cell
  have hcb2 := hB2.cell
  have hT : IsTA w2 w2.heap.size (.agg #[.int .i64 a.letters, .int .i64 a.states, .slice A1 a.accept.length c1, .slice A2 a.leaves.length c2, .slice A3 a.branches.length c3]) a :=
    IsTA.keep ⟨A1, c1, A2, c2, A3, c3, rfl, h1, h2, h3⟩ (fun _ hp => hb02.cell hp) (by omega)
  have hTT := hide hT
  have hs2 := hide ((hs.below hb02).mono (B' := w2.heap.size) (by omega))
  have hl2 := hide ((hl.below hb02).mono (B' := w2.heap.size) (by omega))
  have hns := hs.1
  have hnl := hl.1
  clear hT h1 h2 h3
  go_enter Try.func6, Try.ntmps6
  go_wp2_with fail
  refine (Big_any _ a w2 hTT.out).mono ?_
  rintro e w3 ⟨rfl, hb3⟩
  have hb03 : Below w.heap.size w w3 := hb02.trans (hb3.mono (by omega))
  have hcb3 := (hB12.kept (Kept.of_below hb3 (fun _ => False)) id).cell
  have hB23 := hB2.kept (Kept.of_below hb3 (fun _ => False)) id
  have hdb3 := hB23.cell
  have hsz3 := hb3.size
  cases hbig : a.big with
  | true =>
    go_wp2_with fail
    refine Calls.ret (known_any w3) ?_
    rintro v w4 ⟨rfl, hb4⟩
    have hb04 := hide (hb03.trans (hb4.mono (by omega)))
    clear hb4
    go_wp2_with fail
    go_ret
    exact ⟨rfl, hb04.out⟩
  | false =>
    have hs3 := hide ((hs2.out.below hb3).mono hsz3)
    have hl3 := hide ((hl2.out.below hb3).mono hsz3)
    have hT3 := hide (hTT.out.keep (fun _ hp => hb3.cell hp) hsz3)
    go_wp2_with fail
    refine Calls.ret (long_any hs3.out hl3.out) ?_
    rintro v w4 ⟨rfl, hb4⟩
    have hb04 : Below w.heap.size w w4 := hb03.trans (hb4.mono (by omega))
    have hsz4 := hb4.size
    have hcb4 := ((hB12.kept (Kept.of_below hb3 (fun _ => False)) id).kept (Kept.of_below hb4 (fun _ => False)) id).cell
    have hB24 := hB23.kept (Kept.of_below hb4 (fun _ => False)) id
    have hdb4 := hB24.cell
    cases hlong : (decide (60 < sh.length) || decide (60 < lb.length)) with
    | true =>
      go_wp2_with fail
      refine Calls.ret (known_any w4) ?_
      rintro v w5 ⟨rfl, hb5⟩
      have hb05 := hide (hb04.trans (hb5.mono (by omega)))
      clear hb5
      go_wp2_with fail
      go_ret
      exact ⟨rfl, hb05.out⟩
    | false =>
      have hs4 := hide ((hs3.out.below hb4).mono hsz4)
      have hl4 := hide ((hl3.out.below hb4).mono hsz4)
      have hT4 := hide (hT3.out.keep (fun _ hp => hb4.cell hp) hsz4)
      clear hlong
      go_wp2_with fail
      refine Calls.ret (accepts_any hT4.out hs4.out hl4.out (Nat.le_refl _) (Nat.le_refl _)) ?_
      rintro v w5 ⟨rfl, hb5⟩
      have hb05 : Below w.heap.size w w5 := hb04.trans (hb5.mono (by omega))
      have hsz5 := hb5.size
      have hcb5 := (((hB12.kept (Kept.of_below hb3 (fun _ => False)) id).kept (Kept.of_below hb4 (fun _ => False)) id).kept (Kept.of_below hb5 (fun _ => False)) id).cell
      have hB25 := hB24.kept (Kept.of_below hb5 (fun _ => False)) id
      have hdb5 := hB25.cell
      have hs5 := hide ((hs4.out.below hb5).mono hsz5)
      have hl5 := hide ((hl4.out.below hb5).mono hsz5)
      have hT5 := hide (hT4.out.keep (fun _ hp => hb5.cell hp) hsz5)
      obtain ⟨x, y, hxy⟩ : ∃ x y, accT a sh lb = .tuple #[.bool x, .int .i64 y] := by
        unfold accT
        split
        · exact ⟨_, _, rfl⟩
        · exact ⟨_, _, rfl⟩
      rw [hxy]
      have HXY := hide hxy
      clear hxy
      go_wp2_with fail
      refine Calls.ret (refAccepts_any hT5.out hs5.out hl5.out (Nat.le_refl _) (Nat.le_refl _)) ?_
      rintro v w6 ⟨rfl, hb6⟩
      have hb06 : Below w.heap.size w w6 := hb05.trans (hb6.mono (by omega))
      have hsz6 := hb6.size
      rw [HXY.out]
      have heq1 : (x == x) = true := by simp
      have heq2 : (y == y) = true := by simp
      go_wp2_with fail
      refine Calls.ret (known_any w6) ?_
      rintro v w7 ⟨rfl, hb7⟩
      have hb07 := hide (hb06.trans (hb7.mono (by omega)))
      clear hb7
      go_wp2_with fail
      go_ret
      exact ⟨rfl, hb07.out⟩
end Go.Proofs.Ytnimlcbgeiajiaa

namespace Go.Proofs.Ytnimlcbgeiajiaa
open Go.RowKit

/-- The boxes of a law on two automata and a tree. -/
structure L3 (w0 w : World) (ga gb gt : Nat) (va vb : Array Value) (a b : TA) (D1 D2 : Option Addr) (c1 c2 : Nat) (sh lb : List Int) : Prop where
  below : Below w0.heap.size w0 w
  ba : Blk w ga 26 va
  bb : Blk w gb 26 vb
  bt : Blk w gt 40 #[.slice D1 sh.length c1, .slice D2 lb.length c2]
  ta : IsTA w w.heap.size (.agg va) a
  tb : IsTA w w.heap.size (.agg vb) b
  ss : Sl w w.heap.size 1 encI D1 sh
  sl : Sl w w.heap.size 1 encI D2 lb
theorem L3.step {w0 w w' : World} {ga gb gt : Nat} {va vb : Array Value} {a b : TA} {D1 D2 : Option Addr} {c1 c2 : Nat} {sh lb : List Int} (h : L3 w0 w ga gb gt va vb a b D1 D2 c1 c2 sh lb) (hb : Below w.heap.size w w') : L3 w0 w' ga gb gt va vb a b D1 D2 c1 c2 sh lb :=
  ⟨h.below.trans (hb.mono h.below.size), h.ba.below hb, h.bb.below hb, h.bt.below hb, h.ta.keep (fun _ hp => hb.cell hp) hb.size, h.tb.keep (fun _ hp => hb.cell hp) hb.size, (h.ss.below hb).mono hb.size, (h.sl.below hb).mono hb.size⟩
theorem isTA_inv {w : World} {B : Nat} {x0 x1 x2 x3 x4 : Value} {a : TA} (h : IsTA w B (.agg #[x0, x1, x2, x3, x4]) a) : ∃ A1 c1 A2 c2 A3 c3, x0 = .int .i64 a.letters ∧ x1 = .int .i64 a.states ∧ x2 = .slice A1 a.accept.length c1 ∧ x3 = .slice A2 a.leaves.length c2 ∧ x4 = .slice A3 a.branches.length c3 ∧
    Sl w B 1 encI A1 a.accept ∧ Sl w B 2 encL A2 a.leaves ∧ Sl w B 4 encBr A3 a.branches := by
  obtain ⟨A1, c1, A2, c2, A3, c3, e, s1, s2, s3⟩ := h
  simp only [Value.agg.injEq, Array.mk.injEq, List.cons.injEq, and_true] at e
  exact ⟨A1, c1, A2, c2, A3, c3, e.1, e.2.1, e.2.2.1, e.2.2.2.1, e.2.2.2.2, s1, s2, s3⟩
theorem tas2 {w w3 : World} {x0 x1 x2 x3 x4 y0 y1 y2 y3 y4 : Value} {a b : TA} (h : IsTA w w.heap.size (.agg #[x0, x1, x2, x3, x4]) a) (h' : IsTA w w.heap.size (.agg #[y0, y1, y2, y3, y4]) b) (hb : Below w.heap.size w w3) (hB : Blk w3 w.heap.size 26 #[x0, x1, x2, x3, x4, y0, y1, y2, y3, y4]) :
    TAs w3 w3.heap.size (some ⟨w.heap.size, 0, none⟩) [a, b] := by
  obtain ⟨A1, c1, A2, c2, A3, c3, rfl, rfl, rfl, rfl, rfl, s1, s2, s3⟩ := isTA_inv h
  obtain ⟨A4, c4, A5, c5, A6, c6, rfl, rfl, rfl, rfl, rfl, s4, s5, s6⟩ := isTA_inv h'
  have hk : ∀ p : Addr, p.block < w.heap.size → w3.cell? p = w.cell? p := fun p hp => hb.cell hp
  refine ⟨by simp, fun _ => ⟨w.heap.size, 0, rfl, hB.lt, fun k x hx => ?_⟩⟩
  match k, hx with
  | 0, hx =>
    simp at hx
    subst hx
    exact ⟨A1, c1, A2, c2, A3, c3, hB.cell 0, hB.cell 1, hB.cell 2, hB.cell 3, hB.cell 4, s1.keep hk hb.size, s2.keep hk hb.size, s3.keep hk hb.size⟩
  | 1, hx =>
    simp at hx
    subst hx
    exact ⟨A4, c4, A5, c5, A6, c6, hB.cell 5, hB.cell 6, hB.cell 7, hB.cell 8, hB.cell 9, s4.keep hk hb.size, s5.keep hk hb.size, s6.keep hk hb.size⟩
  | k + 2, hx => simp at hx

/-- joined has succeeded. -/
def JoinOK (w' : World) (base : Nat) (j : Bool → Bool → Bool) (l : List TA) (v : Value) : Prop :=
  ∃ L ac lf t, (∀ a ∈ l, a.letters.toNat = L) ∧ OwnTA w' base v L ac.length (accIdx ac) (plLv lf) (plBr L ac.length t) ∧ MOK L ac lf t ∧ ac.length ≤ 64 ∧ Canon L ac.length (mleaf lf) (mbr t) (macc ac) (langJ j l)
theorem join_two {w w' : World} {base base' : Nat} {j j' : Bool → Bool → Bool} {l : List TA} {r r' : Value} (h : JoinR w base j l r) (h' : JoinR w' base' j' l r') :
    (∃ e : Int, e ≠ 0 ∧ r = .tuple #[zeroTA, .int .i64 e] ∧ r' = .tuple #[zeroTA, .int .i64 e]) ∨
    (chkL l = true ∧ ∃ v v', r = .tuple #[v, .int .i64 0] ∧ r' = .tuple #[v', .int .i64 0] ∧ JoinOK w base j l v ∧ JoinOK w' base' j' l v') := by
  have hx : ∀ {p : Prop}, (l = [] ∨ chkL l = false) → l ≠ [] → chkL l = true → p := fun h h1 h2 => by
    rcases h with h | h
    · exact absurd h h1
    · rw [h2] at h; cases h
  have hy : ∀ {p : Prop} {s : Nat}, ((∃ a ∈ l, a.Large) ∨ (∀ a ∈ l, ¬ a.Large) ∧ ∃ s, SzR l s ∧ 64 < s) → (∀ a ∈ l, ¬ a.Large) → SzR l s → s ≤ 64 → p := fun h h1 h2 h3 => by
    rcases h with ⟨a, ha, hl⟩ | ⟨-, s', h4, h5⟩
    · exact absurd hl (h1 a ha)
    · have := h2.eq h4; omega
  rcases h with ⟨h1, rfl⟩ | ⟨h1, h2, h3, rfl⟩ | ⟨h1, h2, h3, s, v, L, ac, lf, t, h4, h5, rfl, h6⟩ <;>
    rcases h' with ⟨h1', rfl⟩ | ⟨h1', h2', h3', rfl⟩ | ⟨h1', h2', h3', s', v', L', ac', lf', t', h4', h5', rfl, h6'⟩
  · exact .inl ⟨1, by omega, rfl, rfl⟩
  · exact hx h1 h1' h2'
  · exact hx h1 h1' h2'
  · exact hx h1' h1 h2
  · exact .inl ⟨4, by omega, rfl, rfl⟩
  · exact hy h3 h3' h4' h5'
  · exact hx h1' h1 h2
  · exact hy h3' h3 h4 h5
  · exact .inr ⟨h2, v, v', rfl, rfl, ⟨L, ac, lf, t, h6⟩, ⟨L', ac', lf', t', h6'⟩⟩
/-- What joined gives reads as an automaton of the joined language. -/
theorem JoinOK.read {w : World} {base : Nat} {j : Bool → Bool → Bool} {a b : TA} {v : Value} (h : JoinOK w base j [a, b] v) (hv : a.valid = true) : ∃ u : TA, IsTA w w.heap.size v u ∧ u.valid = true ∧ u.letters = a.letters ∧ ∀ t : Tr, t.ok a.letters.toNat → u.lang t = j (a.lang t) (b.lang t) := by
  obtain ⟨L, ac, lf, t, hL, ho, hok, h64, hc⟩ := h
  have hLa := hL a (by simp)
  subst hLa
  obtain ⟨h1, h8, -⟩ := TA.valid_parts hv
  refine ⟨plainA a.letters.toNat ac lf t, own_ta ho, plain_valid hok (by omega) (by omega) h64, ?_, fun tr htr => ?_⟩
  · show ((a.letters.toNat : Nat) : Int) = a.letters
    omega
  · rw [plain_lang hok tr htr, hc.lang tr htr]
    rfl
theorem accT_shape (a : TA) (sh lb : List Int) : ∃ x y, accT a sh lb = .tuple #[.bool x, .int .i64 y] := by
  unfold accT
  split
  · exact ⟨_, _, rfl⟩
  · exact ⟨_, _, rfl⟩
theorem small_branches {a : TA} (h : a.small = true) : a.branches.length ≤ 900000 := by
  simp only [TA.small, TA.big, Bool.and_eq_true, Bool.not_eq_true', Bool.or_eq_false_iff, decide_eq_false_iff_not] at h
  omega
end Go.Proofs.Ytnimlcbgeiajiaa

namespace Go.Proofs.Ytnimlcbgeiajiaa
open Go.RowKit

theorem JoinR.shape {w : World} {base : Nat} {j : Bool → Bool → Bool} {l : List TA} {r : Value} (h : JoinR w base j l r) : ∃ (i0 i1 : Int) (P1 P2 P3 : Option Addr) (n1 n2 n3 m1 m2 m3 : Nat) (e : Int), r = .tuple #[.agg #[.int .i64 i0, .int .i64 i1, .slice P1 n1 m1, .slice P2 n2 m2, .slice P3 n3 m3], .int .i64 e] := by
  rcases h with ⟨h1, rfl⟩ | ⟨h1, h2, h3, rfl⟩ | ⟨h1, h2, h3, s, v, L, ac, lf, t, h4, h5, rfl, h6, ⟨va, vl, vb, rfl, ho1, ho2, ho3⟩, -⟩
  · exact ⟨_, _, _, _, _, _, _, _, _, _, _, _, rfl⟩
  · exact ⟨_, _, _, _, _, _, _, _, _, _, _, _, rfl⟩
  · obtain ⟨A5, d5, rfl⟩ := slice_of_own ho1
    obtain ⟨A6, d6, rfl⟩ := slice_of_own ho2
    obtain ⟨A7, d7, rfl⟩ := slice_of_own ho3
    exact ⟨_, _, _, _, _, _, _, _, _, _, _, _, rfl⟩

set_option maxHeartbeats 16000000 in
set_option maxRecDepth 100000 in
theorem lawJoinMeans {v v' : Value} {a b : TA} {w : World} {c1' c2' : Nat} {D1 D2 : Option Addr} {sh lb : List Int} (h : IsTA w w.heap.size v a) (h' : IsTA w w.heap.size v' b) (hs : Sl w w.heap.size 1 encI D1 sh) (hl : Sl w w.heap.size 1 encI D2 lb) :
    Calls Try.prog 14 #[v, v', .agg #[.slice D1 sh.length c1', .slice D2 lb.length c2']] w (Ret fun v w' => v = .bool true ∧ Below w.heap.size w w') := by
  obtain ⟨A1, c1, A2, c2, A3, c3, rfl, h1, h2, h3⟩ := h
  obtain ⟨A4, c4, A5, c5, A6, c6, rfl, h4, h5, h6⟩ := h'
  obtain ⟨w1, hw1, hb1, hB1, hk1⟩ := box_blk w #[.int .i64 a.letters, .int .i64 a.states, .slice A1 a.accept.length c1, .slice A2 a.leaves.length c2, .slice A3 a.branches.length c3] 26
  obtain ⟨w2, hw2, hb2, hB2, hk2⟩ := box_blk w1 #[.int .i64 b.letters, .int .i64 b.states, .slice A4 b.accept.length c4, .slice A5 b.leaves.length c5, .slice A6 b.branches.length c6] 26
  obtain ⟨w3, hw3, hb3, hB3, hk3⟩ := box_blk w2 #[.slice D1 sh.length c1', .slice D2 lb.length c2'] 40
  have hns := hs.1
  have hnl := hl.1
  have hb03 : Below w.heap.size w w3 := by
    have z1 := hb1.size
    have z2 := hb2.size
    exact (hb1.trans (hb2.mono z1)).trans (hb3.mono (by omega))
  have hX3 : L3 w w3 w.heap.size w1.heap.size w2.heap.size #[.int .i64 a.letters, .int .i64 a.states, .slice A1 a.accept.length c1, .slice A2 a.leaves.length c2, .slice A3 a.branches.length c3] #[.int .i64 b.letters, .int .i64 b.states, .slice A4 b.accept.length c4, .slice A5 b.leaves.length c5, .slice A6 b.branches.length c6] a b D1 D2 c1' c2' sh lb :=
    ⟨hb03, (hB1.kept hk2 id).kept hk3 id, hB2.kept hk3 id, hB3, IsTA.keep ⟨A1, c1, A2, c2, A3, c3, rfl, h1, h2, h3⟩ (fun _ hp => hb03.cell hp) hb03.size, IsTA.keep ⟨A4, c4, A5, c5, A6, c6, rfl, h4, h5, h6⟩ (fun _ hp => hb03.cell hp) hb03.size,
      (hs.below hb03).mono hb03.size, (hl.below hb03).mono hb03.size⟩
  have hca := hX3.ba.cell
  have hcb := hX3.bb.cell
  have hct := hX3.bt.cell
  have hH3 := hide hX3
  clear hX3 hb03 h1 h2 h3 h4 h5 h6 hs hl hB1 hB2 hB3 hb1 hb2 hb3 hk1 hk2 hk3
  go_enter Try.func14, Try.ntmps14
  go_wp2_with fail
  refine Calls.ret (small_any hH3.out.ta) ?_
  rintro v w4 ⟨rfl, hb4⟩
  have hX4 := hH3.out.step hb4
  have hca4 := hX4.ba.cell
  have hcb4 := hX4.bb.cell
  have hct4 := hX4.bt.cell
  have hH4 := hide hX4
  clear hca hcb hct hX4 hb4
  cases hsa : a.small with
  | false =>
    go_wp2_with fail
    refine Calls.ret (known_any w4) ?_
    rintro v w5 ⟨rfl, hb5⟩
    have hfin := hide (hH4.out.step hb5).below
    clear hb5
    go_wp2_with fail
    go_ret
    exact ⟨rfl, hfin.out⟩
  | true =>
    have hSA := hide (small_branches hsa)
    clear hsa
    go_wp2_with fail
    refine Calls.ret (small_any hH4.out.tb) ?_
    rintro v w5 ⟨rfl, hb5⟩
    have hX5 := hH4.out.step hb5
    have hca5 := hX5.ba.cell
    have hcb5 := hX5.bb.cell
    have hct5 := hX5.bt.cell
    have hH5 := hide hX5
    clear hca4 hcb4 hct4 hX5 hb5
    cases hsb : b.small with
    | false =>
      go_wp2_with fail
      refine Calls.ret (known_any w5) ?_
      rintro v w6 ⟨rfl, hb6⟩
      have hfin := hide (hH5.out.step hb6).below
      clear hb6
      go_wp2_with fail
      go_ret
      exact ⟨rfl, hfin.out⟩
    | true =>
      have hSB := hide (small_branches hsb)
      clear hsb
      go_wp2_with fail
      refine Calls.ret (long_any hH5.out.ss hH5.out.sl) ?_
      rintro v w6 ⟨rfl, hb6⟩
      have hX6 := hH5.out.step hb6
      have hca6 := hX6.ba.cell
      have hcb6 := hX6.bb.cell
      have hct6 := hX6.bt.cell
      have hH6 := hide hX6
      clear hca5 hcb5 hct5 hX6 hb6
      cases hlong : (decide (60 < sh.length) || decide (60 < lb.length)) with
      | true =>
        go_wp2_with fail
        refine Calls.ret (known_any w6) ?_
        rintro v w7 ⟨rfl, hb7⟩
        have hfin := hide (hH6.out.step hb7).below
        clear hb7
        go_wp2_with fail
        go_ret
        exact ⟨rfl, hfin.out⟩
      | false =>
        obtain ⟨w7, hw7, hb7, hB7, hk7⟩ := box_blk w6 #[.int .i64 a.letters, .int .i64 a.states, .slice A1 a.accept.length c1, .slice A2 a.leaves.length c2, .slice A3 a.branches.length c3, .int .i64 b.letters, .int .i64 b.states, .slice A4 b.accept.length c4, .slice A5 b.leaves.length c5, .slice A6 b.branches.length c6] 26
        have hS7 := hide (tas2 hH6.out.ta hH6.out.tb hb7 hB7)
        have hH7 := hide (hH6.out.step hb7)
        have hbrs : Hid (∀ x ∈ [a, b], x.branches.length ≤ 900000) := by
          intro x hx
          simp only [List.mem_cons, List.not_mem_nil, or_false] at hx
          rcases hx with rfl | rfl
          · exact hSA.out
          · exact hSB.out
        clear hlong hb7 hB7 hk7
        go_wp2_with fail
        have hck := union_any (c := 2) hS7.out hbrs.out (by simp)
        simp only [List.length_cons, List.length_nil] at hck
        refine Calls.ret hck ?_
        clear hck
        rintro v w8 ⟨hb8, hJ8⟩
        obtain ⟨i0, i1, P1, P2, P3, n1, n2, n3, m1, m2, m3, e, rfl⟩ := hJ8.shape
        have hX8 := hH7.out.step hb8
        obtain ⟨w9, hw9, hb9, hB9, hk9⟩ := box_blk w8 #[.int .i64 i0, .int .i64 i1, .slice P1 n1 m1, .slice P2 n2 m2, .slice P3 n3 m3] 26
        have hX9 := hX8.step hb9
        have hca9 := hX9.ba.cell
        have hcb9 := hX9.bb.cell
        have hct9 := hX9.bt.cell
        have hH9 := hide hX9
        have hJJ8 := hide hJ8
        have hBx := hide hB9
        have hb89 := hide hb9
        obtain ⟨w10, hw10, hb10, hB10, hk10⟩ := box_blk w9 #[.int .i64 a.letters, .int .i64 a.states, .slice A1 a.accept.length c1, .slice A2 a.leaves.length c2, .slice A3 a.branches.length c3, .int .i64 b.letters, .int .i64 b.states, .slice A4 b.accept.length c4, .slice A5 b.leaves.length c5, .slice A6 b.branches.length c6] 26
        have hS10 := hide (tas2 hX9.ta hX9.tb hb10 hB10)
        have hH10 := hide (hX9.step hb10)
        have hb910 := hide hb10
        clear hca6 hcb6 hct6 hX8 hX9 hJ8 hb8 hb9 hB9 hk9 hb10 hB10 hk10
        go_wp2_with fail
        have hck := inter_any (c := 2) hS10.out hbrs.out (by simp)
        simp only [List.length_cons, List.length_nil] at hck
        refine Calls.ret hck ?_
        clear hck
        rintro v w11 ⟨hb11, hJ11⟩
        obtain ⟨j0, j1, P4, P5, P6, n4, n5, n6, m4, m5, m6, e', rfl⟩ := hJ11.shape
        have hX11 := hH10.out.step hb11
        obtain ⟨w12, hw12, hb12, hB12, hk12⟩ := box_blk w11 #[.int .i64 j0, .int .i64 j1, .slice P4 n4 m4, .slice P5 n5 m5, .slice P6 n6 m6] 26
        have hX12 := hX11.step hb12
        have hb812 : Hid (Below w8.heap.size w8 w12) := (((hb89.out.trans (hb910.out.mono hb89.out.size)).trans (hb11.mono (Nat.le_trans hb89.out.size hb910.out.size))).trans (hb12.mono (Nat.le_trans (Nat.le_trans hb89.out.size hb910.out.size) hb11.size)))
        have hb912 : Hid (Below w9.heap.size w9 w12) := ((hb910.out.trans (hb11.mono hb910.out.size)).trans (hb12.mono (Nat.le_trans hb910.out.size hb11.size)))
        have hBx12 := hBx.out.below hb912.out
        have hca := hX12.ba.cell
        have hcb := hX12.bb.cell
        have hct := hX12.bt.cell
        have hcx := hBx12.cell
        have hcy := hB12.cell
        have hH12 := hide hX12
        have hHx := hide hBx12
        have hHy := hide hB12
        have hb1112 := hide hb12
        clear hca9 hcb9 hct9 hX11 hX12 hb11 hb12 hB12 hk12 hBx12
        rcases join_two hJJ8.out hJ11 with ⟨e0, he0, hr, hr'⟩ | ⟨hchk, u, u', hr, hr', hok, hok'⟩
        · injection hr with hr
          injection hr' with hr'
          simp only [Array.mk.injEq, List.cons.injEq, and_true, Value.int.injEq, true_and] at hr hr'
          obtain ⟨-, rfl⟩ := hr
          obtain ⟨-, rfl⟩ := hr'
          have heq : (e' == e') = true := by simp
          have hne0 : (e' == 0) = false := by simpa using he0
          clear hJ11 he0
          go_wp2_with fail
          refine Calls.ret (accepts_any hH12.out.ta hH12.out.ss hH12.out.sl (Nat.le_refl _) (Nat.le_refl _)) ?_
          rintro v w13 ⟨rfl, hb13⟩
          have hX13 := hH12.out.step hb13
          have hcb13 := hX13.bb.cell
          have hct13 := hX13.bt.cell
          have hH13 := hide hX13
          obtain ⟨p1, p2, hp⟩ := accT_shape a sh lb
          rw [hp]
          clear hX13 hb13 hp
          go_wp2_with fail
          refine Calls.ret (accepts_any hH13.out.tb hH13.out.ss hH13.out.sl (Nat.le_refl _) (Nat.le_refl _)) ?_
          rintro v w14 ⟨rfl, hb14⟩
          have hH14 := hide (hH13.out.step hb14)
          obtain ⟨p3, p4, hp⟩ := accT_shape b sh lb
          rw [hp]
          clear hb14 hp
          go_wp2_with fail
          refine Calls.ret (known_any w14) ?_
          rintro v w15 ⟨rfl, hb15⟩
          have hfin := hide (hH14.out.step hb15).below
          clear hb15
          go_wp2_with fail
          go_ret
          exact ⟨rfl, hfin.out⟩
        · injection hr with hr
          injection hr' with hr'
          simp only [Array.mk.injEq, List.cons.injEq, and_true, Value.int.injEq, true_and] at hr hr'
          obtain ⟨hu, rfl⟩ := hr
          obtain ⟨hu', rfl⟩ := hr'
          rw [← hu] at hok
          rw [← hu'] at hok'
          obtain ⟨hva, hvb, hlab⟩ := chk2.1 hchk
          obtain ⟨U, hU, hUv, hUl, hUL⟩ := hok.read hva
          obtain ⟨U', hU', hUv', hUl', hUL'⟩ := hok'.read hva
          have hU12 := hide (hU.keep (fun _ hp => hb812.out.cell hp) hb812.out.size)
          have hU12' := hide (hU'.keep (fun _ hp => hb1112.out.cell hp) hb1112.out.size)
          have heq : ((0 : Int) == 0) = true := rfl
          cases hvt : validT a.letters sh lb
          · have hA1 : Hid (accT a sh lb = .tuple #[.bool false, .int .i64 1]) := by show _ = _; simp [accT, hvt]
            clear hJ11 hu hu' hok hok' hva hvb hlab hchk hU hUv hUl hUL hU' hUv' hUl' hUL' hvt
            go_wp2_with fail
            refine Calls.ret (accepts_any hH12.out.ta hH12.out.ss hH12.out.sl (Nat.le_refl _) (Nat.le_refl _)) ?_
            rintro v w13 ⟨rfl, hb13⟩
            have hX13 := hH12.out.step hb13
            have hcb13 := hX13.bb.cell
            have hct13 := hX13.bt.cell
            have hH13 := hide hX13
            rw [hA1.out]
            clear hX13 hb13
            go_wp2_with fail
            refine Calls.ret (accepts_any hH13.out.tb hH13.out.ss hH13.out.sl (Nat.le_refl _) (Nat.le_refl _)) ?_
            rintro v w14 ⟨rfl, hb14⟩
            have hH14 := hide (hH13.out.step hb14)
            obtain ⟨p3, p4, hp⟩ := accT_shape b sh lb
            rw [hp]
            clear hb14 hp
            go_wp2_with fail
            refine Calls.ret (known_any w14) ?_
            rintro v w15 ⟨rfl, hb15⟩
            have hfin := hide (hH14.out.step hb15).below
            clear hb15
            go_wp2_with fail
            go_ret
            exact ⟨rfl, hfin.out⟩
          · have hT : (treeOf sh lb).ok a.letters.toNat := (validT_tree hvt).2.1
            have hA1 : Hid (accT a sh lb = .tuple #[.bool (a.lang (treeOf sh lb)), .int .i64 0]) := by show _ = _; simp [accT, hvt, hva]
            have hA2 : Hid (accT b sh lb = .tuple #[.bool (b.lang (treeOf sh lb)), .int .i64 0]) := by show _ = _; simp [accT, hvt, hvb, hlab]
            have hA3 : Hid (accT U sh lb = .tuple #[.bool (a.lang (treeOf sh lb) || b.lang (treeOf sh lb)), .int .i64 0]) := by show _ = _; simp [accT, hvt, hUv, hUl, hUL _ hT]
            have hA4 : Hid (accT U' sh lb = .tuple #[.bool (a.lang (treeOf sh lb) && b.lang (treeOf sh lb)), .int .i64 0]) := by show _ = _; simp [accT, hvt, hUv', hUl', hUL' _ hT]
            obtain ⟨xa, hxa⟩ : ∃ x, a.lang (treeOf sh lb) = x := ⟨_, rfl⟩
            obtain ⟨xb, hxb⟩ : ∃ x, b.lang (treeOf sh lb) = x := ⟨_, rfl⟩
            rw [hxa] at hA1 hA3 hA4
            rw [hxb] at hA2 hA3 hA4
            clear hJ11 hu hu' hok hok' hva hvb hlab hchk hU hUv hUl hUL hU' hUv' hUl' hUL' hvt hT hxa hxb
            go_wp2_with fail
            refine Calls.ret (accepts_any hH12.out.ta hH12.out.ss hH12.out.sl (Nat.le_refl _) (Nat.le_refl _)) ?_
            rintro v w13 ⟨rfl, hb13⟩
            have hX13 := hH12.out.step hb13
            have hcb13 := hX13.bb.cell
            have hct13 := hX13.bt.cell
            have hcx13 := (hHx.out.below hb13).cell
            have hcy13 := (hHy.out.below hb13).cell
            have hHx13 := hide (hHx.out.below hb13)
            have hHy13 := hide (hHy.out.below hb13)
            have hU13 := hide (hU12.out.keep (fun _ hp => hb13.cell hp) hb13.size)
            have hU13' := hide (hU12'.out.keep (fun _ hp => hb13.cell hp) hb13.size)
            have hH13 := hide hX13
            rw [hA1.out]
            clear hX13 hb13 hca hcb hct hcx hcy
            go_wp2_with fail
            refine Calls.ret (accepts_any hH13.out.tb hH13.out.ss hH13.out.sl (Nat.le_refl _) (Nat.le_refl _)) ?_
            rintro v w14 ⟨rfl, hb14⟩
            have hX14 := hH13.out.step hb14
            have hct14 := hX14.bt.cell
            have hcx14 := (hHx13.out.below hb14).cell
            have hcy14 := (hHy13.out.below hb14).cell
            have hHy14 := hide (hHy13.out.below hb14)
            have hU14 := hide (hU13.out.keep (fun _ hp => hb14.cell hp) hb14.size)
            have hU14' := hide (hU13'.out.keep (fun _ hp => hb14.cell hp) hb14.size)
            have hH14 := hide hX14
            rw [hA2.out]
            clear hX14 hb14 hcb13 hct13 hcx13 hcy13
            go_wp2_with fail
            refine Calls.ret (accepts_any hU14.out hH14.out.ss hH14.out.sl (Nat.le_refl _) (Nat.le_refl _)) ?_
            rintro v w15 ⟨rfl, hb15⟩
            have hX15 := hH14.out.step hb15
            have hct15 := hX15.bt.cell
            have hcy15 := (hHy14.out.below hb15).cell
            have hU15' := hide (hU14'.out.keep (fun _ hp => hb15.cell hp) hb15.size)
            have hH15 := hide hX15
            rw [hA3.out]
            clear hX15 hb15 hct14 hcx14 hcy14
            go_wp2_with fail
            refine Calls.ret (accepts_any hU15'.out hH15.out.ss hH15.out.sl (Nat.le_refl _) (Nat.le_refl _)) ?_
            rintro v w16 ⟨rfl, hb16⟩
            have hH16 := hide (hH15.out.step hb16)
            rw [hA4.out]
            clear hb16 hct15 hcy15
            cases xa <;> cases xb
            all_goals
              go_wp2_with fail
              refine Calls.ret (known_any w16) ?_
              rintro v w17 ⟨rfl, hb17⟩
              have hfin := hide (hH16.out.step hb17).below
              clear hb17
              go_wp2_with fail
              go_ret
              exact ⟨rfl, hfin.out⟩
end Go.Proofs.Ytnimlcbgeiajiaa

namespace Go.Proofs.Ytnimlcbgeiajiaa
open Go.RowKit

set_option maxHeartbeats 4000000 in
set_option maxRecDepth 100000 in
theorem lawValidates (v : Value) (a : TA) (w : World) (h : IsTA w w.heap.size v a) :
    Calls Try.prog 3 #[v] w (Ret fun v w' => v = .bool true ∧ Below w.heap.size w w') := by
  obtain ⟨A1, c1, A2, c2, A3, c3, rfl, h1, h2, h3⟩ := h
  obtain ⟨w1, hw1, hb1, hB1, hk1⟩ := box_blk w #[.int .i64 a.letters, .int .i64 a.states, .slice A1 a.accept.length c1, .slice A2 a.leaves.length c2, .slice A3 a.branches.length c3] 26
  have hsz1 := hb1.size
  have hcb := hB1.cell
  have hT : IsTA w1 w1.heap.size (.agg #[.int .i64 a.letters, .int .i64 a.states, .slice A1 a.accept.length c1, .slice A2 a.leaves.length c2, .slice A3 a.branches.length c3]) a :=
    IsTA.keep ⟨A1, c1, A2, c2, A3, c3, rfl, h1, h2, h3⟩ (fun _ hp => hb1.cell hp) hsz1
  have hTT := hide hT
  clear hT h1 h2 h3
  go_enter Try.func3, Try.ntmps3
  go_wp2_with fail
  refine (Big_any _ a w1 hTT.out).mono ?_
  rintro e w2 ⟨rfl, hb2⟩
  have hb02 : Below w.heap.size w w2 := hb1.trans (hb2.mono hsz1)
  have hB2 := hB1.below hb2
  have hcb2 := hB2.cell
  have hsz2 := hb2.size
  cases hbig : a.big with
  | true =>
    go_wp2_with fail
    refine Calls.ret (known_any w2) ?_
    rintro v w3 ⟨rfl, hb3⟩
    have hb03 := hide (hb02.trans (hb3.mono (by omega)))
    clear hb3
    go_wp2_with fail
    go_ret
    exact ⟨rfl, hb03.out⟩
  | false =>
    have hT2 := hide (hTT.out.keep (fun _ hp => hb2.cell hp) hsz2)
    go_wp2_with fail
    refine Reg.region_cut [0, 1, 0, 7, 15, 31, 63, 127, 255] [0, 2, 1, 3, 4, 5, 6, 7, 8] (by kernel_rfl) (by repeat (first | exact Reg.NoQ.body (fun _ _ h => h) (fun _ h => h) | refine Reg.NoQ.then ?_ | refine Reg.NoQ.inBlock ?_)) ?_
    refine Reg.rest_walk' [0, 2] [1, 3, 4, 5, 6, 7, 8] rfl (by kernel_rfl) ?_
    intro Qf hQf
    go_wp2_with fail
    rw [List.filterMap_nil]
    go_wp2_with fail
    refine Reg.rest_act' 1 [3, 4, 5, 6, 7, 8] [2] rfl (by kernel_rfl) ?_
    intro Qf hQf
    simp only [List.getElem_toArray, List.getElem_cons_succ, List.getElem_cons_zero]
    have hT3 := hide (hT2.out.below (drew_below w2))
    go_wp2_with (go_at_call 18; refine (validate_any _ a w2.drew hT3.out).mono ?_; rintro e w3 ⟨rfl, hb3⟩)
    refine ⟨Reg.same_below hb3 [2] rfl, ?_⟩
    have hb23 : Below w2.heap.size w2 w3 := (drew_below w2).trans hb3
    have hT4 := hide ((hTT.out.keep (fun _ hp => hb2.cell hp) hsz2).keep (fun _ hp => hb23.cell hp) hb23.size)
    have hb03 := hb02.trans (hb23.mono (by omega))
    have hsz3 := hb23.size
    refine Reg.rest_act' 3 [4, 5, 6, 7, 8] [] rfl (by kernel_rfl) ?_
    intro Qf hQf
    simp only [List.getElem_toArray, List.getElem_cons_succ, List.getElem_cons_zero]
    go_wp2_with (go_at_call 19; refine (refValidate_any _ a w3 hT4.out).mono ?_; rintro e w4 ⟨rfl, hb4⟩)
    refine ⟨fun r hr => absurd hr (List.not_mem_nil), ?_⟩
    have hb04 := hb03.trans (hb4.mono (by omega))
    have hsz4 := hb4.size
    generalize errno a.valid = er at *
    have heq : (er == er) = true := by simp
    refine Reg.rest_walk' [4, 5] [6, 7, 8] rfl (by kernel_rfl) ?_
    intro Qf hQf
    go_wp2_with fail
    rw [List.filterMap_nil]
    go_wp2_with fail
    refine Reg.rest_act' 6 [7, 8] [] rfl (by kernel_rfl) ?_
    intro Qf hQf
    simp only [List.getElem_toArray, List.getElem_cons_succ, List.getElem_cons_zero]
    go_wp2_with (go_at_call 17; refine Calls.ret (known_any w4) ?_; rintro v w5 ⟨rfl, hb5⟩)
    refine ⟨fun r hr => absurd hr (List.not_mem_nil), ?_⟩
    have hb05 := hide (hb04.trans (hb5.mono (by omega)))
    refine Reg.rest_walk' [7, 8] [] rfl (by kernel_rfl) ?_
    intro Qf hQf
    go_wp2_with fail
    rw [List.filterMap_nil]
    go_wp2_with fail
    refine Reg.rest_end ?_
    go_wp2_with fail
    go_ret
    exact ⟨rfl, hb05.out⟩
end Go.Proofs.Ytnimlcbgeiajiaa

namespace Go.Proofs.Ytnimlcbgeiajiaa
open Go.RowKit Go.ChangeShapes Go.WideShapes Go.Deep

section
variable {H : Type} {enc : TypeId × Value → H} {P : Program} {w : World} {base : Nat} {spare : Nat → Bool} {held : Bool}
theorem cell_lt {w : World} {a : Addr} {v : Value} (h : w.cell? a = some v) : a.block < w.heap.size := by
  unfold World.cell? at h
  split at h
  · rename_i hh
    exact (Array.getElem?_eq_some_iff.1 hh).1
  · cases h
theorem add_plain_ (b off i : Nat) : (⟨b, off, none⟩ : Addr).add i = ⟨b, off + i, none⟩ := by
  unfold Addr.add
  split <;> simp_all
/-- A list whose elements are chosen one by one. -/
theorem choose_list {D : Type} {p : Nat → D → Prop} : ∀ n : Nat, (∀ i, i < n → ∃ d, p i d) → ∃ l : List D, l.length = n ∧ ∀ (i : Nat) (d : D), l[i]? = some d → p i d
  | 0, _ => ⟨[], rfl, fun i d h => by simp at h⟩
  | n + 1, h => by
    obtain ⟨l, hl, hp⟩ := choose_list n fun i hi => h i (by omega)
    obtain ⟨d, hd⟩ := h n (by omega)
    refine ⟨l ++ [d], by simp [hl], fun i x hx => ?_⟩
    by_cases hi : i < l.length
    · rw [List.getElem?_append_left hi] at hx
      exact hp i x hx
    · have h1 := lt_of_get hx
      simp at h1
      obtain rfl : i = l.length := by omega
      simp at hx
      subst hx
      rw [hl]
      exact hd
/-- A slice whose elements are known cell by cell. -/
theorem sl_of {D : Type} {sz : Nat} {enc : D → Nat → Value} {a : Addr} {len : Nat} (hs : 0 < sz) (hlen : len ≤ 9223372036854775807) (h : ∀ i, i < len → ∃ d : D, ∀ j, j < sz → w.cell? (a.add (i * sz + j)) = some (enc d j)) :
    ∃ ds : List D, ds.length = len ∧ Sl w w.heap.size sz enc (some a) ds := by
  obtain ⟨ds, hl, hd⟩ := choose_list len h
  refine ⟨ds, hl, by omega, fun hne => ?_⟩
  obtain ⟨b, off, spot⟩ := a
  obtain ⟨d0, hd0⟩ := get_lt (l := ds) (i := 0) (by cases ds; exact absurd rfl hne; simp)
  have h0 := hd 0 d0 hd0 0 hs
  have hspot : spot = none := by simpa [Addr.add] using World.cell?_spot h0
  subst hspot
  have hb := cell_lt h0
  rw [add_plain_] at hb
  refine ⟨b, off, rfl, hb, fun k d hk j hj => ?_⟩
  have := hd k d hk j hj
  rw [add_plain_] at this
  rw [Nat.add_assoc]
  exact this
end

section
variable {H : Type} {enc : TypeId × Value → H} {w : World} {base : Nat} {spare : Nat → Bool} {held : Bool}
theorem intAt {cs : List Value} {n i : Nat} {x : Option (DataW H × List MemPlace)} (h : DataW.trod enc Try.prog w base spare held n 3 ((cs.drop i).take 1) = x) (hx : x.isSome = true) : ∃ z : Int, cs[i]? = some (.int .i64 z) := by
  obtain ⟨y, rfl⟩ := Option.isSome_iff_exists.1 hx
  obtain ⟨z, hz, _⟩ := DataW.trod_int Try.underlying3 h
  refine ⟨z, ?_⟩
  have h1 : ((cs.drop i).take 1)[0]? = some (.int .i64 z) := by rw [hz]; rfl
  rw [List.getElem?_take] at h1
  simpa using h1
theorem ints_in {fuel : Nat} {v : Value} {x : DataW H × List MemPlace} (h : DataW.trod enc Try.prog w base spare held fuel 22 [v] = some x) : ∃ A c, ∃ xs : List Int, v = .slice A xs.length c ∧ Sl w w.heap.size 1 encI A xs := by
  rcases open_ints Try.underlying22 Try.underlying3 (by kernel_rfl) h with ⟨h1, -⟩ | ⟨a, len, cap, zs, h1, -, hlc, hcm, hzl, -, hc, -⟩
  · injection h1 with h1 _
    subst h1
    exact ⟨none, 0, [], rfl, Sl.nil rfl⟩
  · injection h1 with h1 _
    subst h1
    have hle : len ≤ zs.length := by rw [hzl]; split <;> omega
    obtain ⟨ds, hl, hs⟩ := sl_of (w := w) (enc := encI) (a := a) (len := len) (sz := 1) (by omega) (by unfold maxLen at hcm; omega) (fun i hi => ⟨zs.getD i 0, fun j hj => by
      have : j = 0 := by omega
      subst this
      rw [Nat.mul_one, Nat.add_zero]
      exact hc i (by omega)⟩)
    exact ⟨some a, cap, ds, by rw [hl], hs⟩
theorem leaves_in {fuel : Nat} {v : Value} {x : DataW H × List MemPlace} (h : DataW.trod enc Try.prog w base spare held fuel 23 [v] = some x) : ∃ A c, ∃ xs : List Leaf, v = .slice A xs.length c ∧ Sl w w.heap.size 2 encL A xs := by
  rcases open_slice Try.underlying23 h with ⟨h1, -⟩ | ⟨a, len, cap, m, n, D, Pl, h1, -, hlc, hcm, hm, -, hc⟩
  · injection h1 with h1 _
    subst h1
    exact ⟨none, 0, [], rfl, Sl.nil rfl⟩
  · injection h1 with h1 _
    subst h1
    have hC : Try.prog.cellsOf 36 = 2 := by kernel_rfl
    rw [hC] at hc
    have hle : len ≤ m := by rw [hm]; split <;> omega
    obtain ⟨ds, hl, hs⟩ := sl_of (w := w) (enc := encL) (a := a) (len := len) (sz := 2) (by omega) (by unfold maxLen at hcm; omega) (fun i hi => by
      obtain ⟨cs, hcs, ht⟩ := hc i (by omega)
      obtain ⟨_, hlen, hcell⟩ := World.cells?_some hcs
      obtain ⟨xs, n', _, _, _, hxl, hf⟩ := DataW.trod_struct Try.underlying36 ht
      have hxs : ∀ k, k < 2 → (xs[k]?).isSome = true := fun k hk => by
        have : xs.length = 2 := hxl
        rw [List.getElem?_eq_getElem (by omega)]
        rfl
      have h3 : Try.prog.cellsOf 3 = 1 := by kernel_rfl
      have f0 : DataW.trod enc Try.prog w base spare held n' 3 ((cs.drop 0).take (Try.prog.cellsOf 3)) = xs[0]? := hf 0 _ rfl
      have f1 : DataW.trod enc Try.prog w base spare held n' 3 ((cs.drop 1).take (Try.prog.cellsOf 3)) = xs[1]? := hf 1 _ rfl
      rw [h3] at f0 f1
      obtain ⟨z0, e0⟩ := intAt f0 (hxs 0 (by omega))
      obtain ⟨z1, e1⟩ := intAt f1 (hxs 1 (by omega))
      refine ⟨⟨z0, z1⟩, fun j hj => ?_⟩
      have g := hcell j hj
      have hadd : (a.add (i * 2)).add j = a.add (i * 2 + j) := Go.Deep.add_add ..
      rw [hadd] at g
      rw [g]
      match j, hj with
      | 0, _ => exact e0
      | 1, _ => exact e1)
    exact ⟨some a, cap, ds, by rw [hl], hs⟩
theorem branches_in {fuel : Nat} {v : Value} {x : DataW H × List MemPlace} (h : DataW.trod enc Try.prog w base spare held fuel 24 [v] = some x) : ∃ A c, ∃ xs : List Branch, v = .slice A xs.length c ∧ Sl w w.heap.size 4 encBr A xs := by
  rcases open_slice Try.underlying24 h with ⟨h1, -⟩ | ⟨a, len, cap, m, n, D, Pl, h1, -, hlc, hcm, hm, -, hc⟩
  · injection h1 with h1 _
    subst h1
    exact ⟨none, 0, [], rfl, Sl.nil rfl⟩
  · injection h1 with h1 _
    subst h1
    have hC : Try.prog.cellsOf 59 = 4 := by kernel_rfl
    rw [hC] at hc
    have hle : len ≤ m := by rw [hm]; split <;> omega
    obtain ⟨ds, hl, hs⟩ := sl_of (w := w) (enc := encBr) (a := a) (len := len) (sz := 4) (by omega) (by unfold maxLen at hcm; omega) (fun i hi => by
      obtain ⟨cs, hcs, ht⟩ := hc i (by omega)
      obtain ⟨_, hlen, hcell⟩ := World.cells?_some hcs
      obtain ⟨xs, n', _, _, _, hxl, hf⟩ := DataW.trod_struct Try.underlying59 ht
      have hxs : ∀ k, k < 4 → (xs[k]?).isSome = true := fun k hk => by
        have : xs.length = 4 := hxl
        rw [List.getElem?_eq_getElem (by omega)]
        rfl
      have h3 : Try.prog.cellsOf 3 = 1 := by kernel_rfl
      have f0 : DataW.trod enc Try.prog w base spare held n' 3 ((cs.drop 0).take (Try.prog.cellsOf 3)) = xs[0]? := hf 0 _ rfl
      have f1 : DataW.trod enc Try.prog w base spare held n' 3 ((cs.drop 1).take (Try.prog.cellsOf 3)) = xs[1]? := hf 1 _ rfl
      have f2 : DataW.trod enc Try.prog w base spare held n' 3 ((cs.drop 2).take (Try.prog.cellsOf 3)) = xs[2]? := hf 2 _ rfl
      have f3 : DataW.trod enc Try.prog w base spare held n' 3 ((cs.drop 3).take (Try.prog.cellsOf 3)) = xs[3]? := hf 3 _ rfl
      rw [h3] at f0 f1 f2 f3
      obtain ⟨z0, e0⟩ := intAt f0 (hxs 0 (by omega))
      obtain ⟨z1, e1⟩ := intAt f1 (hxs 1 (by omega))
      obtain ⟨z2, e2⟩ := intAt f2 (hxs 2 (by omega))
      obtain ⟨z3, e3⟩ := intAt f3 (hxs 3 (by omega))
      refine ⟨⟨z0, z1, z2, z3⟩, fun j hj => ?_⟩
      have g := hcell j hj
      have hadd : (a.add (i * 4)).add j = a.add (i * 4 + j) := Go.Deep.add_add ..
      rw [hadd] at g
      rw [g]
      match j, hj with
      | 0, _ => exact e0
      | 1, _ => exact e1
      | 2, _ => exact e2
      | 3, _ => exact e3)
    exact ⟨some a, cap, ds, by rw [hl], hs⟩
set_option maxRecDepth 100000 in
/-- An automaton that comes in. -/
theorem ta_in {r : Go.Reach} {b0 : Nat} {v : Value} {d : DataW H} {p : List MemPlace} (hv : Value.okWide Try.prog w r b0 26 v) (h : DataW.Trod enc Try.prog w base spare held 26 v d p) : ∃ a : TA, IsTA w w.heap.size v a := by
  obtain ⟨cs, rfl, hsz⟩ := okWide_struct Try.underlying26 hv
  obtain ⟨l⟩ := cs
  have hC : Try.prog.cellsOf 26 = 5 := by kernel_rfl
  match l, hsz.trans hC with
  | [c0, c1, c2, c3, c4], _ =>
    obtain ⟨fuel, hf⟩ := h
    obtain ⟨xs, n, _, _, _, hxl, hg⟩ := DataW.trod_struct Try.underlying26 hf
    have hxs : ∀ k, k < 5 → ∃ y, xs[k]? = some y := fun k hk => get_lt (by have : xs.length = 5 := hxl; omega)
    have h3 : Try.prog.cellsOf 3 = 1 := by kernel_rfl
    have h22 : Try.prog.cellsOf 22 = 1 := by kernel_rfl
    have h23 : Try.prog.cellsOf 23 = 1 := by kernel_rfl
    have h24 : Try.prog.cellsOf 24 = 1 := by kernel_rfl
    have g0 : DataW.trod enc Try.prog w base spare held n 3 (([c0, c1, c2, c3, c4].drop 0).take (Try.prog.cellsOf 3)) = xs[0]? := hg 0 _ rfl
    have g1 : DataW.trod enc Try.prog w base spare held n 3 (([c0, c1, c2, c3, c4].drop 1).take (Try.prog.cellsOf 3)) = xs[1]? := hg 1 _ rfl
    have g2 : DataW.trod enc Try.prog w base spare held n 22 (([c0, c1, c2, c3, c4].drop 2).take (Try.prog.cellsOf 22)) = xs[2]? := hg 2 _ rfl
    have g3 : DataW.trod enc Try.prog w base spare held n 23 (([c0, c1, c2, c3, c4].drop 3).take (Try.prog.cellsOf 23)) = xs[3]? := hg 3 _ rfl
    have g4 : DataW.trod enc Try.prog w base spare held n 24 (([c0, c1, c2, c3, c4].drop 4).take (Try.prog.cellsOf 24)) = xs[4]? := hg 4 _ rfl
    rw [h3] at g0 g1
    rw [h22] at g2
    rw [h23] at g3
    rw [h24] at g4
    obtain ⟨y2, e2⟩ := hxs 2 (by omega)
    obtain ⟨y3, e3⟩ := hxs 3 (by omega)
    obtain ⟨y4, e4⟩ := hxs 4 (by omega)
    obtain ⟨z0, q0⟩ := intAt g0 (by obtain ⟨y, e⟩ := hxs 0 (by omega); rw [e]; rfl)
    obtain ⟨z1, q1⟩ := intAt g1 (by obtain ⟨y, e⟩ := hxs 1 (by omega); rw [e]; rfl)
    rw [e2] at g2
    rw [e3] at g3
    rw [e4] at g4
    have q0' : c0 = .int .i64 z0 := by simpa using q0
    have q1' : c1 = .int .i64 z1 := by simpa using q1
    obtain ⟨A2, d2, xs2, rfl, s2⟩ := ints_in (v := c2) g2
    obtain ⟨A3, d3, xs3, rfl, s3⟩ := leaves_in (v := c3) g3
    obtain ⟨A4, d4, xs4, rfl, s4⟩ := branches_in (v := c4) g4
    subst q0' q1'
    exact ⟨⟨z0, z1, xs2, xs3, xs4⟩, A2, d2, A3, d3, A4, d4, rfl, s2, s3, s4⟩
end
end Go.Proofs.Ytnimlcbgeiajiaa

namespace Go.Proofs.Ytnimlcbgeiajiaa
open Go.RowKit Go.ChangeShapes Go.WideShapes Go.ChangeAt

theorem knob : ownKnob Try.prog.godebug = none := by kernel_rfl
theorem laid_out : laidOutB Try.prog = true := by kernel_rfl

section
variable {H : Type} {enc : TypeId × Value → H} {P : Program}
/-- What a law leaves behind that made memory alone: its arguments read as they did. -/
theorem law_post {f : Func} {s : ChangeSpec} {apart fresh handsOn again : Bool} {W W' : World} {args : Array Value} {v : Value} {ds : List (DataW H)} {before : List MemPlace} (hvars : s.vars = [])
    (hW : DataW.Whole enc P f.params.toList s.vars apart W args.toList ds [] before)
    (hres : ∀ (b : Nat) (sp : Nat → Bool) (hd : Bool), DataW.TrodAll enc P W' b sp hd f.resultTypes.toList (v.resultList f.resultTypes.size) (s.fn H (ds ++ [])).results [])
    (hargs : ∀ sp : Nat → Bool, (∀ p ∈ before, sp p.block = true) → DataW.TrodAll enc P W' 0 sp true f.params.toList args.toList (s.fn H (ds ++ [])).args before) (hsv : (s.fn H (ds ++ [])).vars = [])
    (hb : Below W.heap.size W W')
    (hok : ∀ (j : Nat) (t : TypeId) (r : Value), f.resultTypes[j]? = some t → (v.resultList f.resultTypes.size)[j]? = some r → Value.okWide P W' .any 0 t r) :
    s.post enc P f apart fresh handsOn again W args v W' := by
  have hlt : ∀ p ∈ before, p.block < W.heap.size := fun p hp => hW.lt p hp
  have hold : ∀ p ∈ before, (fun b => decide (b < W.heap.size)) p.block = true := fun p hp => by simpa using hlt p hp
  have hvs : ∀ sp : Nat → Bool, DataW.TrodVars enc P W' sp s.vars (s.fn H (ds ++ [])).vars [] := fun sp => by rw [hvars, hsv]; rfl
  refine ⟨ds, [], before, [], before, [], hW, hres _ _ _, hargs _ hold, hvs _, World.keptBut_mono (fun p hp => ⟨hp, ?_⟩) (hb.frame (· ∈ before)), fun _ => ?_⟩
  · exact Or.inr (Or.inl hp)
  · obtain ⟨_, _, _, _, _, hz, hn⟩ := hW
    refine ⟨hok, _, _, ([] ++ before) ++ [], ⟨[] ++ before, [], trodAll_append (hargs _ (fun _ _ => rfl)) (hres _ _ _), hvs _, rfl, ?_, ?_⟩, ?_⟩
    · intro b off hp
      have hin : MemPlace.cell b off ∈ before := by simpa using hp
      rw [hb.frozen (hlt _ hin)]
      exact hz b off hin
    · intro ha
      simpa using hn ha
    · intro p hp _
      simpa using hp
end

set_option maxRecDepth 100000 in
theorem tv_lifted (os : Os) (started : os.Started) (H : Type) (enc : TypeId × Value → H) :
    ReturnsInHanded {} Try.checked os 3 .any (Rows.treeValidatesSpec.pre6 enc Try.prog Try.f3 Rows.treeValidatesRow.domain false) (Rows.treeValidatesSpec.post enc Try.prog Try.f3 false true false false) := by
  refine returnsInHanded_of_change (C := Try.checked) knob started (by kernel_rfl) Try.func3
    (ChangeSpec.witness6 (enc := enc) (C := Try.checked) false ⟨#[], #[.agg #[.int .i64 0, .int .i64 0, .slice none 0 0, .slice none 0 0, .slice none 0 0]], []⟩ 8 (by kernel_rfl) (by kernel_rfl) (by kernel_rfl) (by kernel_rfl)) ?_
  intro W base args ds gs before hval0 hW hcnd _
  have hval : ∀ (j : Nat) t v, Try.f3.params[j]? = some t → args[j]? = some v → Value.okWide Try.prog W .any base t v := hval0
  have hW' := hW
  obtain ⟨p, q, hA0, hV, rfl, hfz, hnd⟩ := hW
  have hA : DataW.TrodAll enc Try.prog W 0 (fun _ => true) true Try.f3.params.toList args.toList ds p := hA0
  rw [Try.params3] at hA hval
  obtain ⟨v0, d0, rfl, rfl, h0⟩ := trodAll_one hA
  obtain ⟨rfl, rfl⟩ := trodVars_none hV
  obtain ⟨a, ha⟩ := ta_in (hval 0 26 v0 rfl rfl) h0
  simp only [List.append_nil] at hW'
  have hlt := hW'.lt
  refine Calls.ret (lawValidates v0 a W ha) fun v W' ⟨hv, hb⟩ => ?_
  subst hv
  exact ⟨_, rfl, law_post rfl hW' (fun _ _ _ => trodAll_mk1 (shut_bool Try.underlying4 _)) (fun sp hsp => by
    rw [Try.params3]
    exact trodAll_mk1 (WideElems.Trod_stays laid_out (by kernel_rfl) (of_decide_eq_true (by kernel_rfl)) h0 (fun x hx => hb.same (hlt x hx)) hsp)) rfl hb (ok_one (by kernel_rfl) rfl (okWide_bool_mk Try.underlying4 _))⟩

theorem treeValidates_holds : Rows.TreeValidatesSaid :=
  OpenClaim.holds_of_wide 3 Try.f3 rfl rfl rfl rfl rfl rfl rfl ⟨rfl, rfl, rfl, rfl, rfl⟩ rfl rfl rfl rfl rfl (by kernel_rfl) Try.func3 (by kernel_rfl)
    (of_decide_eq_true (by kernel_rfl)) (by unfold Func.isWrapper; first | (rw [if_pos (by decide +kernel)]; kernel_rfl) | (rw [if_neg (by decide +kernel)]; exact ⟨rfl, rfl⟩))
    (fun os started H enc _ => tv_lifted os started H enc)
#print axioms treeValidates_holds
end Go.Proofs.Ytnimlcbgeiajiaa

namespace Go.Proofs.Ytnimlcbgeiajiaa
open Go.RowKit Go.ChangeShapes Go.WideShapes Go.ChangeAt

section
variable {H : Type} {enc : TypeId × Value → H} {w : World} {base : Nat} {spare : Nat → Bool} {held : Bool}
set_option maxRecDepth 100000 in
/-- A shape with labels that comes in. -/
theorem tree_in {r : Go.Reach} {b0 : Nat} {v : Value} {d : DataW H} {p : List MemPlace} (hv : Value.okWide Try.prog w r b0 40 v) (h : DataW.Trod enc Try.prog w base spare held 40 v d p) :
    ∃ A1 c1 A2 c2, ∃ sh lb : List Int, v = .agg #[.slice A1 sh.length c1, .slice A2 lb.length c2] ∧ Sl w w.heap.size 1 encI A1 sh ∧ Sl w w.heap.size 1 encI A2 lb := by
  obtain ⟨cs, rfl, hsz⟩ := okWide_struct Try.underlying40 hv
  obtain ⟨l⟩ := cs
  have hC : Try.prog.cellsOf 40 = 2 := by kernel_rfl
  match l, hsz.trans hC with
  | [c0, c1], _ =>
    obtain ⟨fuel, hf⟩ := h
    obtain ⟨xs, n, _, _, _, hxl, hg⟩ := DataW.trod_struct Try.underlying40 hf
    have hxs : ∀ k, k < 2 → ∃ y, xs[k]? = some y := fun k hk => get_lt (by have : xs.length = 2 := hxl; omega)
    have h22 : Try.prog.cellsOf 22 = 1 := by kernel_rfl
    have g0 : DataW.trod enc Try.prog w base spare held n 22 (([c0, c1].drop 0).take (Try.prog.cellsOf 22)) = xs[0]? := hg 0 _ rfl
    have g1 : DataW.trod enc Try.prog w base spare held n 22 (([c0, c1].drop 1).take (Try.prog.cellsOf 22)) = xs[1]? := hg 1 _ rfl
    rw [h22] at g0 g1
    obtain ⟨y0, e0⟩ := hxs 0 (by omega)
    obtain ⟨y1, e1⟩ := hxs 1 (by omega)
    rw [e0] at g0
    rw [e1] at g1
    obtain ⟨A0, d0, xs0, rfl, s0⟩ := ints_in (v := c0) g0
    obtain ⟨A1, d1, xs1, rfl, s1⟩ := ints_in (v := c1) g1
    exact ⟨A0, d0, A1, d1, xs0, xs1, rfl, s0, s1⟩
end

end Go.Proofs.Ytnimlcbgeiajiaa
