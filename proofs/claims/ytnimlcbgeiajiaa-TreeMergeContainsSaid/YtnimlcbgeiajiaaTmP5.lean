/-
  TreeMergeContains: for every automaton, depth, shape and labels, the merged automaton accepts every tree that the automaton accepts. No condition.
  A shape with labels that comes in.
  TreeValidates: for every automaton, the program's Validate and the document's give the same error, and the program knows its small tree and automaton. No condition.
  Arguments that come in: an automaton by value reads as data; what a law leaves behind.
  TreeValidates: the walk of the law.
  The law TreeMergeContains: the walk.
  The law TreeMinimalKeeps: the walk.
  CompareInts, SameInts and SameAutomaton at equal data, and small: the walks.
  The reference's Accepts, long, and the law TreeAccepts: the walks.
  The reference's accepts and Accepts: the walks.
  The reference's accepts: marks and words say the same (plain), and the walk.
  The reference's ValidTree with IsShape: the walks.
  The reference's Validate: the walk; what it answers is the function TA.valid of the automaton's data.
  tree.Merge: the walk.
  machine.merged: the walk.
  The automaton that machine.merged makes: it is valid, and it accepts all that the machine accepts. Plain Lean.
  The canonical automaton as an automaton: it is valid, has the same language, is not large, and is its own canonical automaton. Plain Lean, and its memory.
  tree.Accepts: the walk.
  A tree from its preorder, from the last node to the first: the stack of subtrees. Plain Lean. tree.Accepts: the walk.
-/
import Derived.ProofKit
import Derived.Deep.Slices
import Derived.Deep.Fields
import Derived.Test.YtnimlcbgeiajiaaTmP4

namespace Go.Proofs.Ytnimlcbgeiajiaa
open Go.RowKit

def stkStep (c l : Int) : List Tr → Option (List Tr)
  | s => if c = 0 then some (.leaf l.toNat :: s) else match s with
    | t1 :: t2 :: r => some (.node l.toNat t1 t2 :: r)
    | _ => none
def stk : List Int → List Int → Option (List Tr)
  | c :: sh, l :: lb => (stk sh lb).bind (stkStep c l)
  | _, _ => some []

theorem stk_ok {L : Int} : ∀ (sh lb : List Int) (o : Int), 0 ≤ o → vtGo L o sh lb = true → ∃ s, stk sh lb = some s ∧ (s.length : Int) = o ∧ ∀ t ∈ s, t.ok L.toNat
  | [], [], o, h0, h => ⟨[], rfl, by simp [vtGo] at h; simp; omega, by simp⟩
  | [], _ :: _, o, h0, h => by simp [vtGo] at h
  | _ :: _, [], o, h0, h => by simp [vtGo] at h
  | c :: sh, l :: lb, o, h0, h => by
    simp only [vtGo, Bool.and_eq_true, bne_iff_ne, Bool.or_eq_true, beq_iff_eq, decide_eq_true_eq] at h
    obtain ⟨⟨⟨⟨h1, h2⟩, h3⟩, h4⟩, h5⟩ := h
    obtain ⟨s, e, hl, hs⟩ := stk_ok sh lb (o + c - 1) (by omega) h5
    by_cases hc : c = 0
    · subst hc
      refine ⟨.leaf l.toNat :: s, by simp [stk, e, stkStep], by simp; omega, ?_⟩
      intro t ht
      rcases List.mem_cons.1 ht with rfl | ht
      · show l.toNat < L.toNat
        omega
      · exact hs t ht
    · have hc2 : c = 2 := by omega
      subst hc2
      match s, hl, hs, e with
      | t1 :: t2 :: r, hl, hs, e =>
        refine ⟨.node l.toNat t1 t2 :: r, by simp [stk, e, stkStep], by simp at hl ⊢; omega, ?_⟩
        intro t ht
        rcases List.mem_cons.1 ht with rfl | ht
        · exact ⟨by omega, hs _ List.mem_cons_self, hs _ (List.mem_cons_of_mem _ List.mem_cons_self)⟩
        · exact hs t (List.mem_cons_of_mem _ (List.mem_cons_of_mem _ ht))
      | [t1], hl, _, _ => simp at hl; omega
      | [], hl, _, _ => simp at hl; omega

/-- The tree that a valid pair stands for. -/
def treeOf (sh lb : List Int) : Tr := ((stk sh lb).getD []).headD (.leaf 0)
theorem validT_tree {L : Int} {sh lb : List Int} (h : validT L sh lb = true) : stk sh lb = some [treeOf sh lb] ∧ (treeOf sh lb).ok L.toNat ∧ lb.length = sh.length ∧ 1 ≤ sh.length ∧ sh.length ≤ 4095 := by
  simp only [validT, Bool.and_eq_true, decide_eq_true_eq] at h
  obtain ⟨⟨⟨h1, h2⟩, h3⟩, h4⟩ := h
  obtain ⟨s, e, hl, hs⟩ := stk_ok sh lb 1 (by omega) h4
  match s, hl, hs, e with
  | [t], _, hs, e => 
    have : treeOf sh lb = t := by simp [treeOf, e]
    rw [this]
    exact ⟨e, hs t List.mem_cons_self, h3, h1, h2⟩
  | [], hl, _, _ => simp at hl
  | _ :: _ :: _, hl, _, _ => simp at hl; omega

/-- What lies on the stack before the node i is read, and behind it. -/
theorem stk_at {L : Int} : ∀ (sh lb : List Int) (o : Int), 0 ≤ o → vtGo L o sh lb = true → ∀ i, i < sh.length → ∃ c l s, sh[i]? = some c ∧ lb[i]? = some l ∧ 0 ≤ l ∧ stk (sh.drop (i + 1)) (lb.drop (i + 1)) = some s ∧
    ((c = 0 ∧ stk (sh.drop i) (lb.drop i) = some (.leaf l.toNat :: s)) ∨ (c = 2 ∧ ∃ t1 t2 r, s = t1 :: t2 :: r ∧ stk (sh.drop i) (lb.drop i) = some (.node l.toNat t1 t2 :: r)))
  | [], _, o, _, _, i, hi => by simp at hi
  | _ :: _, [], o, _, h, _, _ => by simp [vtGo] at h
  | c :: sh, l :: lb, o, h0, h, i, hi => by
    have h' := h
    simp only [vtGo, Bool.and_eq_true, bne_iff_ne, Bool.or_eq_true, beq_iff_eq, decide_eq_true_eq] at h
    obtain ⟨⟨⟨⟨h1, h2⟩, h3⟩, h4⟩, h5⟩ := h
    cases i with
    | zero =>
      obtain ⟨s, e, hl, hs⟩ := stk_ok sh lb (o + c - 1) (by omega) h5
      refine ⟨c, l, s, rfl, rfl, h3, e, ?_⟩
      by_cases hc : c = 0
      · subst hc
        exact .inl ⟨rfl, by simp [stk, e, stkStep]⟩
      · have hc2 : c = 2 := by omega
        subst hc2
        match s, hl, e with
        | t1 :: t2 :: r, hl, e => exact .inr ⟨rfl, t1, t2, r, rfl, by simp [stk, e, stkStep]⟩
        | [t1], hl, _ => simp at hl; omega
        | [], hl, _ => simp at hl; omega
    | succ i =>
      exact stk_at sh lb (o + c - 1) (by omega) h5 i (by simpa using hi)

theorem own_shrink {w : World} {base size n m : Nat} {e : TypeId} {g cap : Nat} {xs : List Value} (h : w.ownsRow base e size (.slice (some ⟨g, 0, none⟩) n cap) n xs) (hm : m ≤ n) :
    w.ownsRow base e size (.slice (some ⟨g, 0, none⟩) m cap) m (xs.take (m * size)) := by
  obtain ⟨hl, hx⟩ := h
  have hmn : m * size ≤ n * size := Nat.mul_le_mul_right _ hm
  refine ⟨by rw [List.length_take, hl]; omega, ?_⟩
  rcases hx with ⟨h1, _⟩ | ⟨g', cap', cur, hv, hb, hh, hc, hx, hs, ht⟩
  · cases h1
  · injection hv with hv _ hcap
    injection hv with hv
    injection hv with hg
    subst hg hcap
    refine .inr ⟨g, cap, cur, rfl, hb, hh, by omega, hx, hs, ?_⟩
    rw [← ht, List.take_take, Nat.min_eq_left hmn]

def TA.mask (a : TA) (t : Tr) : Nat := runT a.leafS a.brS t
def masks (a : TA) (s : List Tr) : List Value := (s.reverse).map fun t => .int .u64 (a.mask t : Int)
theorem masks_cons (a : TA) (t : Tr) (s : List Tr) : masks a (t :: s) = masks a s ++ [.int .u64 (a.mask t : Int)] := by simp [masks]
theorem masks_two (a : TA) (t1 t2 : Tr) (s : List Tr) : masks a (t1 :: t2 :: s) = masks a s ++ [.int .u64 (a.mask t2 : Int), .int .u64 (a.mask t1 : Int)] := by simp [masks]
theorem masks_len (a : TA) (s : List Tr) : (masks a s).length = s.length := by simp [masks]

theorem accS_any (a : TA) (s : Nat) (h : ∀ q ∈ a.accept, 0 ≤ q) : a.accS s = a.accept.any (mBit s) := by
  unfold TA.accS mHit mAnd accM
  have key : ∀ (l : List Int) (m : Nat), (∀ q ∈ l, 0 ≤ q) → ((s &&& l.foldl setB m) != 0) = ((s &&& m) != 0 || l.any (mBit s)) := by
    intro l
    induction l with
    | nil => intro m _; simp
    | cons q l ih =>
      intro m hq
      rw [List.foldl_cons, ih _ (fun q' hq' => hq q' (List.mem_cons_of_mem _ hq'))]
      rw [List.any_cons, ← Bool.or_assoc]
      congr 1
      unfold setB mOr mPow mBit
      rw [Nat.and_or_distrib_left]
      have h1 : ((s &&& m ||| s &&& 2 ^ q.toNat) != 0) = ((s &&& m) != 0 || (s &&& 2 ^ q.toNat) != 0) := by
        rw [Bool.eq_iff_iff]
        by_cases h0 : s &&& m = 0 <;> simp [Nat.or_eq_zero_iff, h0]
      have h2 : s &&& 2 ^ q.toNat = if s.testBit q.toNat = true then 2 ^ q.toNat else 0 := by
        apply Nat.eq_of_testBit_eq
        intro i
        rw [Nat.testBit_and, Nat.testBit_two_pow]
        by_cases hi : q.toNat = i
        · subst hi
          cases hs : s.testBit q.toNat <;> simp
        · cases hs : s.testBit q.toNat <;> simp [hi]
      rw [h1, h2]
      cases hs : s.testBit q.toNat <;> simp
  rw [key _ _ h]
  simp
end Go.Proofs.Ytnimlcbgeiajiaa

namespace Go.Proofs.Ytnimlcbgeiajiaa
open Go.RowKit

def accT (a : TA) (sh lb : List Int) : Value := if a.valid && validT a.letters sh lb then .tuple #[.bool (a.lang (treeOf sh lb)), .int .i64 0] else .tuple #[.bool false, .int .i64 1]

theorem stk_nil_at {sh lb : List Int} {i : Nat} (h : sh.length ≤ i) : stk (sh.drop i) (lb.drop i) = some [] := by
  rw [List.drop_eq_nil_of_le h]
  simp [stk]
theorem masks_get {a : TA} {t1 t2 : Tr} {r : List Tr} : (masks a (t1 :: t2 :: r))[r.length]? = some (.int .u64 (a.mask t2 : Int)) ∧ (masks a (t1 :: t2 :: r))[r.length + 1]? = some (.int .u64 (a.mask t1 : Int)) := by
  rw [masks_two]
  constructor
  · rw [List.getElem?_append_right (by rw [masks_len]; omega), masks_len, Nat.sub_self]; rfl
  · rw [List.getElem?_append_right (by rw [masks_len]; omega), masks_len, Nat.add_sub_cancel_left]; rfl
theorem masks_take {a : TA} {t1 t2 : Tr} {r : List Tr} : (masks a (t1 :: t2 :: r)).take (r.length * 1) = masks a r := by
  rw [masks_two, Nat.mul_one, List.take_append_of_le_length (by rw [masks_len]; omega), List.take_of_length_le (by rw [masks_len]; omega)]
theorem TA.valid_parts {a : TA} (h : a.valid = true) : 1 ≤ a.letters ∧ a.letters ≤ 8 ∧ 0 ≤ a.states ∧ a.states ≤ 64 ∧ a.accept.all (inR · 0 a.states) = true ∧ (∀ q ∈ a.accept, 0 ≤ q ∧ q < 64) ∧ (∀ e ∈ a.leaves, e.to < 64) ∧ (∀ e ∈ a.branches, e.to < 64) := by
  simp only [TA.valid, TA.head, Bool.and_eq_true, decide_eq_true_eq] at h
  obtain ⟨⟨⟨⟨⟨⟨h1, h2⟩, h3⟩, h4⟩, h5⟩, h6⟩, h7⟩ := h
  refine ⟨h1, h2, h3, h4, h5, fun q hq => ?_, fun e he => ?_, fun e he => ?_⟩
  · have := List.all_eq_true.1 h5 q hq
    simp only [inR, Bool.and_eq_true, decide_eq_true_eq] at this
    omega
  · have := List.all_eq_true.1 h6 e he
    simp only [okLeaf, inR, Bool.and_eq_true, decide_eq_true_eq] at this
    omega
  · have := List.all_eq_true.1 h7 e he
    simp only [okBranch, inR, Bool.and_eq_true, decide_eq_true_eq] at this
    omega
theorem TA.mask_u64 {a : TA} (h : a.valid = true) (t : Tr) : U64 (a.mask t) := by
  obtain ⟨-, -, -, -, -, -, h1, h2⟩ := TA.valid_parts h
  cases t with
  | leaf x => exact U64.leafM h1
  | node x s t => exact U64.brM fun e he => h2 e (List.mem_filter.1 he).1

theorem own_cap {w : World} {base size n c : Nat} {e : TypeId} {g : Addr} {xs : List Value} (h : w.ownsRow base e size (.slice (some g) n c) n xs) : n ≤ c := by
  rcases h.2 with ⟨h1, _⟩ | ⟨g', cap', cur, hv, _, _, hc, _⟩
  · cases h1
  · injection hv with _ _ hv
    omega
set_option maxHeartbeats 8000000 in
set_option maxRecDepth 100000 in
theorem accepts_any {v : Value} {a : TA} {w : World} {B1 B2 c1' c2' : Nat} {D1 D2 : Option Addr} {sh lb : List Int} (h : IsTA w w.heap.size v a) (hs : Sl w B1 1 encI D1 sh) (hl : Sl w B2 1 encI D2 lb) (hB1 : B1 ≤ w.heap.size) (hB2 : B2 ≤ w.heap.size) :
    Calls Try.prog 28 #[v, .slice D1 sh.length c1', .slice D2 lb.length c2'] w (Ret fun r w' => r = accT a sh lb ∧ Below w.heap.size w w') := by
  have hIn := h
  obtain ⟨A1, c1, A2, c2, A3, c3, rfl, h1, h2, h3⟩ := h
  obtain ⟨w1, hw1, hb1, hB, hk1⟩ := box_blk w #[.int .i64 a.letters, .int .i64 a.states, .slice A1 a.accept.length c1, .slice A2 a.leaves.length c2, .slice A3 a.branches.length c3] 26
  have hcb := hB.cell
  have hsz := hb1.size
  have hT : IsTA w1 w1.heap.size (.agg #[.int .i64 a.letters, .int .i64 a.states, .slice A1 a.accept.length c1, .slice A2 a.leaves.length c2, .slice A3 a.branches.length c3]) a :=
    ⟨A1, c1, A2, c2, A3, c3, rfl, (h1.below hb1).mono hsz, (h2.below hb1).mono hsz, (h3.below hb1).mono hsz⟩
  have hHB := hide hB
  have hHT := hide hT
  have hn1 := h1.1
  have hns := hs.1
  have hnl := hl.1
  clear hT
  cases hv : a.valid
  · have hV := hide hv
    clear hv
    have he : Hid (accT a sh lb = .tuple #[.bool false, .int .i64 1]) := by show _ = _; simp [accT, hV.out]
    go_enter Try.func28, Try.ntmps28
    go_wp2_with (go_at_call 18; refine (validate_any _ _ _ hHT.out).mono ?_; rintro e w' ⟨rfl, hb⟩; rw [hV.out]; simp only [errno]; have hb2 := hide hb; clear hb)
    go_ret2
    exact ⟨he.out.symm, hb1.trans (hb2.out.mono hsz)⟩
  · have hV := hide hv
    clear hv
    cases hvt : validT a.letters sh lb
    · have hVT := hide hvt
      clear hvt
      have he : Hid (accT a sh lb = .tuple #[.bool false, .int .i64 1]) := by show _ = _; simp [accT, hVT.out]
      go_enter Try.func28, Try.ntmps28
      go_wp2_with (first | (go_at_call 18; refine (validate_any _ _ _ hHT.out).mono ?_; rintro e w2 ⟨rfl, hb⟩; rw [hV.out]; simp only [errno]; have hb2 := hide hb; have hcb2 := (hB.kept (Kept.of_below hb (fun _ => False)) id).cell; have hs2 := hide ((hs.mono hB1).below (hb1.trans (hb.mono hsz))); have hl2 := hide ((hl.mono hB2).below (hb1.trans (hb.mono hsz))); clear hb) | (go_at_call 42; refine (validTree_any hs2.out hl2.out).mono ?_; rintro e w3 ⟨rfl, rfl⟩; rw [hVT.out]))
      go_ret2
      exact ⟨he.out.symm, hb1.trans (hb2.out.mono hsz)⟩
    · obtain ⟨hst, hok, hlen, hn1', hn2'⟩ := validT_tree hvt
      have hgo : vtGo a.letters 1 sh lb = true := by
        simp only [validT, Bool.and_eq_true] at hvt
        exact hvt.2
      have hVT := hide hvt
      have hST := hide hst
      have hGO := hide hgo
      have hLEN := hide hlen
      clear hvt hst hgo hlen
      obtain ⟨hL1, hL8, hS0, hS64, -, hacc, -, -⟩ := TA.valid_parts hV.out
      have hACC := hide hacc
      clear hacc
      go_enter Try.func28, Try.ntmps28
      go_wp2_with (first | (go_at_call 18; refine (validate_any _ _ _ hHT.out).mono ?_; rintro e w2 ⟨rfl, hb⟩; rw [hV.out]; simp only [errno]; have hb2 := hide hb; have hcb2 := (hB.kept (Kept.of_below hb (fun _ => False)) id).cell; have hs2 := hide ((hs.mono hB1).below (hb1.trans (hb.mono hsz))); have hl2 := hide ((hl.mono hB2).below (hb1.trans (hb.mono hsz))); clear hb) | (go_at_call 42; refine (validTree_any hs2.out hl2.out).mono ?_; rintro e w3 ⟨rfl, rfl⟩; rw [hVT.out]))
      have hW2 := hb2.out
      clear hs2 hl2 hcb2 hcb
      go_loopw [9, 10] (fun kk ii wr => ∃ (i : Nat) (s : List Tr), ii = .int .i64 ((i : Int) - 1) ∧ i ≤ sh.length ∧ Hid (stk (sh.drop i) (lb.drop i) = some s) ∧ Hid (wr.ownsRow w1.heap.size 70 1 kk s.length (masks a s)) ∧ Hid (i + s.length ≤ sh.length + 1) ∧ Below w1.heap.size w1 wr) (fun _ ii _ => (intOf ii + 1).toNat)
      case atStart => exact ⟨sh.length, [], rfl, Nat.le_refl _, stk_nil_at (Nat.le_refl _), own_nil, Nat.le_succ _, hW2⟩
      case round =>
        obtain ⟨i, s, rfl, hi, hs3, hown, hsl, hbr⟩ := hrel
        have hBr := hB.kept (Kept.of_below hbr (fun _ => False)) id
        have hcbr := hBr.cell
        have hszr := hbr.size
        obtain ⟨A, c, rfl⟩ := slice_of_own hown.out
        by_cases hlt : 0 < i
        · obtain ⟨k, rfl⟩ : ∃ k, i = k + 1 := ⟨i - 1, by omega⟩
          rw [show (((k + 1 : Nat) : Int) - 1) = (k : Int) from by omega]
          obtain ⟨cd, l, s', hc, hl', hl0, hs', hcase⟩ := stk_at sh lb 1 (by omega) hGO.out k (by omega)
          have hss : s' = s := by
            have := hs3.out
            rw [hs'] at this
            exact Option.some.inj this
          subst hss
          obtain ⟨x, rfl⟩ := Int.eq_ofNat_of_zero_le hl0
          simp only [Int.toNat_natCast] at hcase
          obtain ⟨b1, o1, c', rfl, hb1', hc', hcc⟩ := hs.at (k := k) (by omega)
          obtain ⟨b2, o2, l', rfl, hb2', hl'', hlc⟩ := hl.at (k := k) (by rw [hLEN.out]; omega)
          rw [hc] at hc'
          rw [hl'] at hl''
          injection hc' with hc'
          injection hl'' with hl''
          subst hc' hl''
          have hc0 := (hbr.cell (by show b1 < _; omega)).trans ((hb1.cell (by show b1 < _; omega)).trans (hcc 0 (by omega)))
          have hl0' := (hbr.cell (by show b2 < _; omega)).trans ((hb1.cell (by show b2 < _; omega)).trans (hlc 0 (by omega)))
          simp only [Nat.mul_one, Nat.add_zero, encI] at hc0 hl0'
          have hTr : IsTA wr.drew wr.drew.heap.size (.agg #[.int .i64 a.letters, .int .i64 a.states, .slice A1 a.accept.length c1, .slice A2 a.leaves.length c2, .slice A3 a.branches.length c3]) a := hHT.out.keep (fun _ hp => hbr.drew.cell hp) hszr
          have hTR := hide hTr
          have hownd := hide ((Kept.refl wr (fun _ => False)).drew.ownsRow hown.out (fun _ _ => id))
          have hszd : wr.drew.heap.size = wr.heap.size := rfl
          have hkl := hLEN.out
          have hKL := hide hkl
          have hklb : k < lb.length := by omega
          clear hc hl' hs' hcc hlc hl0 hTr hs3 hkl
          have hcount := hsl.out
          rcases hcase with ⟨rfl, hnext⟩ | ⟨rfl, t1, t2, r, rfl, hnext⟩
          · have hNX := hide hnext
            clear hnext
            go_wp2_with fail
            refine Reg.region_plain [0, 0, 0, 6, 14, 31, 63] (by kernel_rfl) (by repeat (first | exact Reg.NoQ.body (fun _ _ h => h) (fun _ h => h) | refine Reg.NoQ.then ?_ | refine Reg.NoQ.inBlock ?_)) ?_
            go_wp2_with (first | (go_at_call 53; refine Calls.ret (leafSet_any _ a _ x hTR.out hV.out) ?_; rintro v w3 ⟨rfl, hU, hb3⟩; have hU3 := hide hU; have hb33 := hide hb3; have hsz3 := hb3.size; have hbase3 : w1.heap.size ≤ w3.heap.size := by omega
                                  have hown3 := (Kept.of_below hb3 (fun _ => False)).ownsRow hownd.out (fun _ _ => id); clear hU hb3) | (at_builtin; refine wpList_app_new row69 rfl _ _ rfl w1.heap.size (.slice A s'.length c) s'.length _ rfl hown3 [.int .u64 (a.leafS x : Int)] 1 rfl rfl (by simp [Value.oneCell']) (by omega) hbase3 ?_; intro g cap' w4 hown4 hk4 hmv4 hg4))
            refine ⟨⟨k, .leaf x :: s', by go_num, by omega, hNX.out, ?_, by show _ ≤ _; simp; omega, ?_⟩, by simp [intOf]⟩
            · show World.ownsRow _ _ _ _ _ _ _
              rw [masks_cons]
              exact hown4
            · refine (hbr.drew.trans (hb33.out.mono hszr)).trans (hk4.below hbase3 (fun b hb e => ?_))
              have := own_base hown3 e
              omega
          · have hNX := hide hnext
            clear hnext
            simp only [List.length_cons] at *
            have hg1 := hide (own_get hown.out (masks_get (a := a) (t1 := t1) (t2 := t2) (r := r)).1)
            have hg2 := hide (own_get hown.out (masks_get (a := a) (t1 := t1) (t2 := t2) (r := r)).2)
            obtain ⟨g, cap, hv1, hcl1⟩ := hg1.out
            obtain ⟨g', cap', hv2, hcl2⟩ := hg2.out
            injection hv1 with hv1 _ hv1c
            injection hv2 with hv2 _ hv2c
            subst hv1 hv1c hv2c
            injection hv2 with hv2
            injection hv2 with hv2
            subst hv2
            have hcap := own_cap hown.out
            clear hg1 hg2
            have hU1 := TA.mask_u64 hV.out t1
            have hU2 := TA.mask_u64 hV.out t2
            go_wp2_with fail
            refine Reg.region_ints' [0, 0, 0, 6, 14, 0, 0, 64, 224, 480, 0, 0, 2048, 7168, 15360, 32767, 65535] (by kernel_rfl) (by repeat (first | exact Reg.NoQ.body (fun _ _ h => h) (fun _ h => h) | refine Reg.NoQ.then ?_ | refine Reg.NoQ.inBlock ?_)) ?_
            intro Qf hQf
            go_wp2_with (go_at_call 54; refine Calls.ret (branchSet_any _ a _ x (a.mask t1) (a.mask t2) hTR.out hV.out hU1 hU2) ?_; rintro v w3 ⟨rfl, hU, hb3⟩; have hU3 := hide hU; have hb33 := hide hb3; have hsz3 := hb3.size; have hbase3 : w1.heap.size ≤ w3.heap.size := by omega
                         have hown3 := (Kept.of_below hb3 (fun _ => False)).ownsRow hownd.out (fun _ _ => id); clear hU hb3)
            refine ⟨rfl, ?_⟩
            have hown5 := own_shrink (m := r.length) hown3 (by omega)
            rw [masks_take] at hown5
            go_wp2_with (at_builtin; refine wpList_app_new row69 rfl _ _ rfl w1.heap.size (.slice (some ⟨g, 0, none⟩) r.length c) r.length _ rfl hown5 [.int .u64 (a.brS x (a.mask t1) (a.mask t2) : Int)] 1 rfl rfl (by simp [Value.oneCell']) (by omega) hbase3 ?_; intro g2 cap' w4 hown4 hk4 hmv4 hg4)
            refine ⟨⟨k, .node x t1 t2 :: r, by go_num, by omega, hNX.out, ?_, by show _ ≤ _; simp; omega, ?_⟩, by simp [intOf]⟩
            · show World.ownsRow _ _ _ _ _ _ _
              rw [masks_cons]
              exact hown4
            · refine (hbr.drew.trans (hb33.out.mono hszr)).trans (hk4.below hbase3 (fun b hb e => ?_))
              have := own_base hown5 e
              omega
        · have hi0 : i = 0 := by omega
          subst hi0
          rw [show (((0 : Nat) : Int) - 1) = -1 from rfl]
          have hs4 : s = [treeOf sh lb] := by
            have := hs3.out
            rw [List.drop_zero, List.drop_zero, hST.out] at this
            exact (Option.some.inj this).symm
          subst hs4
          obtain ⟨g, cap, hv1, hcl⟩ := own_get (k := 0) hown.out (u := .int .u64 (a.mask (treeOf sh lb) : Int)) (by simp [masks])
          injection hv1 with hv1 _ hv1c
          subst hv1 hv1c
          have hU := TA.mask_u64 hV.out (treeOf sh lb)
          have hfin : Hid (accT a sh lb = .tuple #[.bool (a.accept.any (mBit (a.mask (treeOf sh lb)))), .int .i64 0]) := by
            show _ = _
            have : a.lang (treeOf sh lb) = a.accept.any (mBit (a.mask (treeOf sh lb))) := accS_any a _ fun q hq => (hACC.out q hq).1
            simp [accT, hV.out, hVT.out, this]
          have hbW := hide (hb1.trans (hbr.mono hsz))
          clear hs3 hown hsl
          go_wp2_with fail
          go_loop [73] (fun jj => ∃ (j : Nat), jj = .int .i64 (j : Int) ∧ j ≤ a.accept.length ∧ Hid (∀ j', j' < j → ∀ q, a.accept[j']? = some q → mBit (a.mask (treeOf sh lb)) q = false)) (fun jj => a.accept.length - (intOf jj).toNat)
          case atStart => exact ⟨0, rfl, Nat.zero_le _, fun j hj => absurd hj (by omega)⟩
          case round =>
            obtain ⟨j, rfl, hj, hE⟩ := hrel
            by_cases hlt2 : j < a.accept.length
            · obtain ⟨b, off, q, rfl, hbb, hx, hc⟩ := h1.at hlt2
              have hc0 := (hbW.out.cell (by exact hbb)).trans (hc 0 (by omega))
              simp only [Nat.mul_one, Nat.add_zero, encI] at hc0
              obtain ⟨hq0, hq1⟩ := hACC.out q (List.mem_of_getElem? hx)
              have hX := hide hx
              clear hx hc
              cases hbt : mBit (a.mask (treeOf sh lb)) q
              · have hBT := hide hbt
                go_wp2_with fail
                refine ⟨⟨j + 1, by go_num, by omega, fun j' hj' q' hq' => ?_⟩, by simp [intOf]; omega⟩
                by_cases hjk : j' = j
                · subst hjk
                  rw [hX.out] at hq'
                  injection hq' with hq'
                  subst hq'
                  exact hBT.out
                · exact hE.out j' (by omega) q' hq'
              · have hBT := hide hbt
                go_wp2_with fail
                go_ret2
                refine ⟨?_, hbW.out⟩
                have : a.accept.any (mBit (a.mask (treeOf sh lb))) = true := List.any_eq_true.2 ⟨_, List.mem_of_getElem? hX.out, hBT.out⟩
                rw [hfin.out, this]
                rfl
            · go_wp2_with fail
              go_ret2
              refine ⟨?_, hbW.out⟩
              have : a.accept.any (mBit (a.mask (treeOf sh lb))) = false := List.any_eq_false.2 fun q hq => by
                obtain ⟨j', hj'⟩ := List.mem_iff_getElem?.1 hq
                rw [hE.out j' (by have := lt_of_get hj'; omega) q hj']
                simp
              rw [hfin.out, this]
              rfl
end Go.Proofs.Ytnimlcbgeiajiaa

namespace Go.Proofs.Ytnimlcbgeiajiaa
open Go.RowKit

theorem tb_fold {A : Type} {f : A → Int} {c : A → Bool} (r : Nat) : ∀ (l : List A) (m : Nat), (l.foldl (fun m e => if c e = true then setB m (f e) else m) m).testBit r = (m.testBit r || l.any fun e => c e && decide ((f e).toNat = r))
  | [], m => by simp
  | e :: l, m => by
    rw [List.foldl_cons, tb_fold r l, List.any_cons, ← Bool.or_assoc]
    congr 1
    cases hc : c e
    · simp
    · simp [setB, mOr, mPow, Nat.testBit_or, Nat.testBit_two_pow]

theorem mem_plLv {lf : List Nat} {e : Leaf} : e ∈ plLv lf ↔ ∃ x, x < lf.length ∧ e = ⟨(x : Int), (mleaf lf x : Int)⟩ := by
  simp only [plLv, List.mem_map, List.mem_range]
  constructor
  · rintro ⟨x, hx, rfl⟩; exact ⟨x, hx, rfl⟩
  · rintro ⟨x, hx, rfl⟩; exact ⟨x, hx, rfl⟩
theorem mem_plBr {L n : Nat} {t : List (List (List Nat))} {e : Branch} : e ∈ plBr L n t ↔ ∃ x i j, x < L ∧ i < n ∧ j < n ∧ e = ⟨(x : Int), (i : Int), (j : Int), (mbr t x i j : Int)⟩ := by
  simp only [plBr, List.mem_flatMap, List.mem_map, List.mem_range]
  constructor
  · rintro ⟨x, hx, i, hi, j, hj, rfl⟩; exact ⟨x, i, j, hx, hi, hj, rfl⟩
  · rintro ⟨x, i, j, hx, hi, hj, rfl⟩; exact ⟨x, hx, i, hi, j, hj, rfl⟩
theorem mem_accIdx {ac : List Bool} {i : Nat} : i ∈ accIdx ac ↔ i < ac.length ∧ macc ac i = true := by simp [accIdx, List.mem_filter]

section
variable {L : Nat} {ac : List Bool} {lf : List Nat} {t : List (List (List Nat))}
theorem plain_valid (h : MOK L ac lf t) (h1 : 1 ≤ L) (h8 : L ≤ 8) (hn : ac.length ≤ 64) : (plainA L ac lf t).valid = true := by
  simp only [TA.valid, TA.head, plainA, Bool.and_eq_true]
  refine ⟨⟨⟨⟨⟨⟨decide_eq_true (by omega), decide_eq_true (by omega)⟩, decide_eq_true (by omega)⟩, decide_eq_true (by omega)⟩, ?_⟩, ?_⟩, ?_⟩
  · rw [List.all_eq_true]
    intro q hq
    obtain ⟨i, hi, rfl⟩ := List.mem_map.1 hq
    have := (mem_accIdx.1 hi).1
    simp [inR]; omega
  · rw [List.all_eq_true]
    intro e he
    obtain ⟨x, hx, rfl⟩ := mem_plLv.1 he
    rw [h.lfl] at hx
    have := h.isM.leaf_lt x hx
    simp [okLeaf, inR]; omega
  · rw [List.all_eq_true]
    intro e he
    obtain ⟨x, i, j, hx, hi, hj, rfl⟩ := mem_plBr.1 he
    have := h.isM.br_lt x i j hx hi hj
    simp [okBranch, inR]; omega
theorem plain_leaf (h : MOK L ac lf t) {x : Nat} (hx : x < L) : (plainA L ac lf t).leafS x = 2 ^ mleaf lf x := by
  apply Nat.eq_of_testBit_eq
  intro r
  show (leafM (plLv lf) x).testBit r = _
  have := tb_fold (f := fun e : Leaf => e.to) (c := fun e => decide (e.letter = (x : Int))) r (plLv lf) 0
  simp only [decide_eq_true_eq] at this
  unfold leafM
  rw [this, Nat.testBit_two_pow, Nat.zero_testBit, Bool.false_or, Bool.eq_iff_iff, List.any_eq_true, decide_eq_true_eq]
  constructor
  · rintro ⟨e, he, h2⟩
    obtain ⟨x', -, rfl⟩ := mem_plLv.1 he
    simp at h2
    obtain ⟨h4, h3⟩ := h2
    obtain rfl : x' = x := by omega
    exact h3
  · rintro rfl
    exact ⟨_, mem_plLv.2 ⟨x, by rw [h.lfl]; exact hx, rfl⟩, by simp⟩
theorem plain_br {x p q : Nat} (hx : x < L) (hp : p < ac.length) (hq : q < ac.length) : (plainA L ac lf t).brS x (2 ^ p) (2 ^ q) = 2 ^ mbr t x p q := by
  apply Nat.eq_of_testBit_eq
  intro r
  show (brM (2 ^ p) (2 ^ q) (byL (plBr L ac.length t) x)).testBit r = _
  have := tb_fold (f := fun e : Branch => e.to) (c := fun e => mBit (2 ^ p) e.first && mBit (2 ^ q) e.second) r (byL (plBr L ac.length t) x) 0
  unfold brM
  rw [this, Nat.testBit_two_pow, Nat.zero_testBit, Bool.false_or, Bool.eq_iff_iff, List.any_eq_true, decide_eq_true_eq]
  constructor
  · rintro ⟨e, he, h2⟩
    obtain ⟨he, hl⟩ := List.mem_filter.1 he
    obtain ⟨x', i, j, -, -, -, rfl⟩ := mem_plBr.1 he
    simp [mBit, Nat.testBit_two_pow] at h2 hl
    obtain ⟨⟨rfl, rfl⟩, h3⟩ := h2
    obtain rfl : x' = x := by omega
    exact h3
  · rintro rfl
    exact ⟨_, List.mem_filter.2 ⟨mem_plBr.2 ⟨x, p, q, hx, hp, hq, rfl⟩, by simp⟩, by simp [mBit]⟩
theorem plain_mask (h : MOK L ac lf t) : ∀ tr : Tr, tr.ok L → (plainA L ac lf t).mask tr = 2 ^ runT (mleaf lf) (mbr t) tr
  | .leaf _, hx => plain_leaf h hx
  | .node x a b, hx => by
    show (plainA L ac lf t).brS x ((plainA L ac lf t).mask a) ((plainA L ac lf t).mask b) = _
    rw [plain_mask h a hx.2.1, plain_mask h b hx.2.2]
    exact plain_br hx.1 (h.isM.run_lt a hx.2.1) (h.isM.run_lt b hx.2.2)
theorem plain_lang (h : MOK L ac lf t) (tr : Tr) (ht : tr.ok L) : (plainA L ac lf t).lang tr = macc ac (runT (mleaf lf) (mbr t) tr) := by
  show (plainA L ac lf t).accS ((plainA L ac lf t).mask tr) = _
  have hlt := h.isM.run_lt tr ht
  rw [plain_mask h tr ht, accS_any _ _ (fun q hq => by
    obtain ⟨i, -, rfl⟩ := List.mem_map.1 hq
    omega), Bool.eq_iff_iff, List.any_eq_true]
  constructor
  · rintro ⟨q, hq, h2⟩
    obtain ⟨i, hi, rfl⟩ := List.mem_map.1 hq
    simp [mBit, Nat.testBit_two_pow] at h2
    subst h2
    exact (mem_accIdx.1 hi).2
  · intro h2
    exact ⟨_, List.mem_map.2 ⟨_, mem_accIdx.2 ⟨hlt, h2⟩, rfl⟩, by simp [mBit]⟩
theorem nodup_le : ∀ (n : Nat) (l : List Nat), l.Nodup → (∀ x ∈ l, ∃ p, p < n ∧ x = 2 ^ p) → l.length ≤ n
  | 0, l, _, h => by
    cases l with
    | nil => simp
    | cons x l =>
      obtain ⟨p, hp, -⟩ := h x List.mem_cons_self
      omega
  | n + 1, l, hn, h => by
    have h1 := nodup_le n (l.erase (2 ^ n)) (hn.erase _) (fun x hx => by
      have hx2 := (hn.mem_erase_iff).1 hx
      obtain ⟨p, hp, e⟩ := h x hx2.2
      refine ⟨p, ?_, e⟩
      have : p ≠ n := fun e2 => hx2.1 (by rw [e, e2])
      omega)
    rw [List.length_erase] at h1
    split at h1 <;> omega
theorem plain_small (h : MOK L ac lf t) (hn : ac.length ≤ 64) : ¬ (plainA L ac lf t).Large := by
  rintro ⟨l, hnd, hr, hlen⟩
  have := nodup_le ac.length l hnd fun s hs => by
    obtain ⟨tr, htr, rfl⟩ := reach_run.1 (hr s hs)
    have htr' : tr.ok L := by simpa [plainA] using htr
    exact ⟨_, h.isM.run_lt tr htr', plain_mask h tr htr'⟩
  omega
end

theorem flatMap_same {A B : Type} {l : List A} {f g : A → List B} (h : ∀ x ∈ l, f x = g x) : l.flatMap f = l.flatMap g := by
  induction l with
  | nil => rfl
  | cons x l ih => rw [List.flatMap_cons, List.flatMap_cons, h x List.mem_cons_self, ih fun y hy => h y (List.mem_cons_of_mem _ hy)]
theorem plain_same {L : Nat} {ac ac' : List Bool} {lf lf' : List Nat} {t t' : List (List (List Nat))} {Λ Λ' : Tr → Bool} (h : MOK L ac lf t) (h' : MOK L ac' lf' t') (hc : Canon L ac.length (mleaf lf) (mbr t) (macc ac) Λ)
    (hc' : Canon L ac'.length (mleaf lf') (mbr t') (macc ac') Λ') (hΛ : ∀ tr : Tr, tr.ok L → Λ tr = Λ' tr) : plainA L ac' lf' t' = plainA L ac lf t := by
  obtain ⟨hn, h1, h2, h3⟩ := Canon.unique hc hc' hΛ
  have e1 : accIdx ac' = accIdx ac := by
    unfold accIdx
    rw [← hn]
    exact List.filter_congr fun x hx => (h3 x (List.mem_range.1 hx)).symm
  have e2 : plLv lf' = plLv lf := by
    unfold plLv
    rw [h.lfl, h'.lfl]
    exact List.map_congr_left fun x hx => by rw [h1 x (List.mem_range.1 hx)]
  have e3 : plBr L ac'.length t' = plBr L ac.length t := by
    unfold plBr
    rw [← hn]
    refine flatMap_same fun x hx => flatMap_same fun i hi => List.map_congr_left fun j hj => ?_
    rw [h2 x i j (List.mem_range.1 hx) (List.mem_range.1 hi) (List.mem_range.1 hj)]
  unfold plainA
  rw [e1, e2, e3, hn]

/-! ## its memory -/
theorem flat2 (l : List Leaf) : ∀ (k j : Nat) (b : Leaf), l[k]? = some b → j < 2 → (l.flatMap lvCells)[k * 2 + j]? = some (encL b j) := by
  induction l with
  | nil => intro k j b h; simp at h
  | cons c l ih =>
    intro k j b h hj
    rw [List.flatMap_cons]
    cases k with
    | zero =>
      simp at h; subst h
      rw [List.getElem?_append_left (by simp [lvCells]; omega)]
      match j, hj with
      | 0, _ => simp [lvCells, encL]
      | 1, _ => simp [lvCells, encL]
    | succ k =>
      simp at h
      rw [List.getElem?_append_right (by simp [lvCells]; omega)]
      have := ih k j b h hj
      rw [show (k + 1) * 2 + j - (lvCells c).length = k * 2 + j from by simp [lvCells]; omega]
      exact this
theorem sl_own {D : Type} {w : World} {base sz : Nat} {e : TypeId} {v : Value} {enc : D → Nat → Value} {ds : List D} {xs : List Value} (h : w.ownsRow base e sz v ds.length xs) (hx : ∀ (k j : Nat) (d : D), ds[k]? = some d → j < sz → xs[k * sz + j]? = some (enc d j)) :
    ∃ A c, v = .slice A ds.length c ∧ Sl w w.heap.size sz enc A ds := by
  obtain ⟨hl, hh⟩ := h
  rcases hh with ⟨rfl, h0⟩ | ⟨g, cap, cur, rfl, hb, hg, hc, hm, hs, ht⟩
  · have : ds = [] := List.length_eq_zero_iff.1 h0
    subst this
    exact ⟨none, 0, rfl, Sl.nil rfl⟩
  · refine ⟨_, _, rfl, by unfold maxLen at hm; omega, fun _ => ⟨g, 0, rfl, (Array.getElem?_eq_some_iff.1 hg).1, fun k d hd j hj => ?_⟩⟩
    rw [cell_of_row w g _ cur e (0, 0) hg, Nat.zero_add, ← hx k j d hd hj, ← ht, List.getElem?_take]
    have hk := lt_of_get hd
    have : k * sz + j < ds.length * sz := by
      have : (k + 1) * sz ≤ ds.length * sz := Nat.mul_le_mul_right _ hk
      rw [Nat.succ_mul] at this
      omega
    simp [this]
theorem own_ta {w : World} {base L : Nat} {v : Value} {ac : List Bool} {lf : List Nat} {t : List (List (List Nat))} (h : OwnTA w base v L ac.length (accIdx ac) (plLv lf) (plBr L ac.length t)) : IsTA w w.heap.size v (plainA L ac lf t) := by
  obtain ⟨va, vl, vb, rfl, h1, h2, h3⟩ := h
  have h1' : w.ownsRow base 3 1 va ((accIdx ac).map fun i : Nat => (i : Int)).length ((accIdx ac).map encN) := by simpa using h1
  obtain ⟨A1, c1, rfl, s1⟩ := sl_own (enc := encI) h1' (fun k j d hd hj => by
    have hj0 : j = 0 := by omega
    subst hj0
    rw [List.getElem?_map] at hd
    rw [Nat.mul_one, Nat.add_zero, List.getElem?_map]
    cases hk : (accIdx ac)[k]? with
    | none => rw [hk] at hd; cases hd
    | some i =>
      rw [hk] at hd
      have := Option.some.inj hd
      subst this
      rfl)
  obtain ⟨A2, c2, rfl, s2⟩ := sl_own (enc := encL) h2 (fun k j d hd hj => flat2 _ k j d hd hj)
  obtain ⟨A3, c3, rfl, s3⟩ := sl_own (enc := encBr) h3 (fun k j d hd hj => flat4 _ k j d hd hj)
  exact ⟨A1, c1, A2, c2, A3, c3, rfl, s1, s2, s3⟩

theorem plBr_len {L n : Nat} {t : List (List (List Nat))} : (plBr L n t).length = L * (n * n) := by
  unfold plBr
  simp [List.length_flatMap, List.map_const', List.sum_replicate_nat]
/-- Both automata give the same answer on all trees. -/
theorem keep_acc {a : TA} {ac : List Bool} {lf : List Nat} {t : List (List (List Nat))} (hv : a.valid = true) (h : MOK a.letters.toNat ac lf t) (hn : ac.length ≤ 64) (hc : Canon a.letters.toNat ac.length (mleaf lf) (mbr t) (macc ac) a.lang) (sh lb : List Int) :
    accT (plainA a.letters.toNat ac lf t) sh lb = accT a sh lb := by
  obtain ⟨h1, h8, -, -, -, -, -, -⟩ := TA.valid_parts hv
  have hpv := plain_valid h (by omega) (by omega) hn
  have hl : (plainA a.letters.toNat ac lf t).letters = a.letters := by simp [plainA]; omega
  unfold accT
  rw [hpv, hv, hl]
  cases hvt : validT a.letters sh lb
  · rfl
  · have hok := (validT_tree hvt).2.1
    rw [plain_lang h _ hok, hc.lang _ hok]
end Go.Proofs.Ytnimlcbgeiajiaa

namespace Go.Proofs.Ytnimlcbgeiajiaa
open Go.RowKit

def mergedA (L : Nat) (ac : List Bool) (lf cl : List Nat) (t : List (List (List Nat))) : TA :=
  { letters := L, states := mgSt cl ac.length, accept := (mgAcc ac cl ac.length).map fun (i : Nat) => (i : Int), leaves := mgLv lf cl lf.length, branches := mgI L ac.length t cl ac.length }
theorem mgSt_le {cl : List Nat} {n : Nat} (h : ∀ i, i < n → clN cl i < n) : ∀ k, k ≤ n → mgSt cl k ≤ n
  | 0, _ => by simp [mgSt]
  | k + 1, hk => by
    rw [mgSt_succ]
    have := mgSt_le h k (by omega)
    have := h k (by omega)
    omega
theorem mgSt_ge {cl : List Nat} : ∀ (k i : Nat), i < k → clN cl i < mgSt cl k
  | 0, i, h => by omega
  | k + 1, i, h => by
    rw [mgSt_succ]
    by_cases e : i = k
    · subst e; omega
    · have := mgSt_ge (cl := cl) k i (by omega)
      omega
theorem mem_mgLv {lf cl : List Nat} {k : Nat} {e : Leaf} : e ∈ mgLv lf cl k ↔ ∃ x, x < k ∧ e = ⟨(x : Int), (clN cl (mleaf lf x) : Int)⟩ := by
  simp only [mgLv, List.mem_map, List.mem_range]
  constructor
  · rintro ⟨x, hx, rfl⟩; exact ⟨x, hx, rfl⟩
  · rintro ⟨x, hx, rfl⟩; exact ⟨x, hx, rfl⟩
theorem mem_mgI {L n : Nat} {t : List (List (List Nat))} {cl : List Nat} {e : Branch} : e ∈ mgI L n t cl n ↔ ∃ x i j, x < L ∧ i < n ∧ j < n ∧ e = ⟨(x : Int), (clN cl i : Int), (clN cl j : Int), (clN cl (mbr t x i j) : Int)⟩ := by
  simp only [mgI, mgJ, mgX, List.mem_flatMap, List.mem_map, List.mem_range]
  constructor
  · rintro ⟨i, hi, j, hj, x, hx, rfl⟩; exact ⟨x, i, j, hx, hi, hj, rfl⟩
  · rintro ⟨x, i, j, hx, hi, hj, rfl⟩; exact ⟨i, hi, j, hj, x, hx, rfl⟩
theorem mem_mgAcc {ac : List Bool} {cl : List Nat} {k v : Nat} : v ∈ mgAcc ac cl k ↔ ∃ i, i < k ∧ macc ac i = true ∧ clN cl i = v := by
  simp only [mgAcc, List.mem_map, List.mem_filter, List.mem_range]
  constructor
  · rintro ⟨i, ⟨h1, h2⟩, rfl⟩; exact ⟨i, h1, h2, rfl⟩
  · rintro ⟨i, h1, h2, rfl⟩; exact ⟨i, ⟨h1, h2⟩, rfl⟩

section
variable {L : Nat} {ac : List Bool} {lf cl : List Nat} {t : List (List (List Nat))}
theorem merged_valid (h : MOK L ac lf t) (h1 : 1 ≤ L) (h8 : L ≤ 8) (hn : ac.length ≤ 64) (hc : ∀ i, i < ac.length → clN cl i < ac.length) : (mergedA L ac lf cl t).valid = true := by
  have hs := mgSt_le hc ac.length (Nat.le_refl _)
  have hg := fun i hi => mgSt_ge (cl := cl) ac.length i hi
  simp only [TA.valid, TA.head, mergedA, Bool.and_eq_true]
  refine ⟨⟨⟨⟨⟨⟨decide_eq_true (by omega), decide_eq_true (by omega)⟩, decide_eq_true (by omega)⟩, decide_eq_true (by omega)⟩, ?_⟩, ?_⟩, ?_⟩
  · rw [List.all_eq_true]
    intro q hq
    obtain ⟨v, hv, rfl⟩ := List.mem_map.1 hq
    obtain ⟨i, hi, -, rfl⟩ := mem_mgAcc.1 hv
    have := hg i hi
    simp [inR]; omega
  · rw [List.all_eq_true]
    intro e he
    obtain ⟨x, hx, rfl⟩ := mem_mgLv.1 he
    rw [h.lfl] at hx
    have := hg _ (h.isM.leaf_lt x hx)
    simp [okLeaf, inR]; omega
  · rw [List.all_eq_true]
    intro e he
    obtain ⟨x, i, j, hx, hi, hj, rfl⟩ := mem_mgI.1 he
    have := hg _ (h.isM.br_lt x i j hx hi hj)
    have := hg i hi
    have := hg j hj
    simp [okBranch, inR]; omega
theorem merged_bit (h : MOK L ac lf t) : ∀ tr : Tr, tr.ok L → ((mergedA L ac lf cl t).mask tr).testBit (clN cl (runT (mleaf lf) (mbr t) tr)) = true
  | .leaf x, hx => by
    show (leafM (mgLv lf cl lf.length) x).testBit _ = true
    have := tb_fold (f := fun e : Leaf => e.to) (c := fun e => decide (e.letter = (x : Int))) (clN cl (mleaf lf x)) (mgLv lf cl lf.length) 0
    simp only [decide_eq_true_eq] at this
    unfold leafM
    rw [show runT (mleaf lf) (mbr t) (.leaf x) = mleaf lf x from rfl, this, Nat.zero_testBit, Bool.false_or, List.any_eq_true]
    exact ⟨_, mem_mgLv.2 ⟨x, by rw [h.lfl]; exact hx, rfl⟩, by simp⟩
  | .node x a b, hx => by
    have ha := merged_bit h a hx.2.1
    have hb := merged_bit h b hx.2.2
    have hla := h.isM.run_lt a hx.2.1
    have hlb := h.isM.run_lt b hx.2.2
    show (brM ((mergedA L ac lf cl t).mask a) ((mergedA L ac lf cl t).mask b) (byL (mgI L ac.length t cl ac.length) x)).testBit (clN cl (mbr t x (runT (mleaf lf) (mbr t) a) (runT (mleaf lf) (mbr t) b))) = true
    generalize runT (mleaf lf) (mbr t) a = p at *
    generalize runT (mleaf lf) (mbr t) b = q at *
    have := tb_fold (f := fun e : Branch => e.to) (c := fun e => mBit ((mergedA L ac lf cl t).mask a) e.first && mBit ((mergedA L ac lf cl t).mask b) e.second) (clN cl (mbr t x p q)) (byL (mgI L ac.length t cl ac.length) x) 0
    unfold brM
    rw [this, Nat.zero_testBit, Bool.false_or, List.any_eq_true]
    exact ⟨_, List.mem_filter.2 ⟨mem_mgI.2 ⟨x, p, q, hx.1, hla, hlb, rfl⟩, by simp⟩, by simp [mBit, ha, hb]⟩
theorem merged_lang (h : MOK L ac lf t) (tr : Tr) (ht : tr.ok L) (ha : macc ac (runT (mleaf lf) (mbr t) tr) = true) : (mergedA L ac lf cl t).lang tr = true := by
  show (mergedA L ac lf cl t).accS ((mergedA L ac lf cl t).mask tr) = true
  rw [accS_any _ _ (fun q hq => by
    obtain ⟨i, -, rfl⟩ := List.mem_map.1 hq
    omega), List.any_eq_true]
  exact ⟨_, List.mem_map.2 ⟨_, mem_mgAcc.2 ⟨_, h.isM.run_lt tr ht, ha, rfl⟩, rfl⟩, by simpa [mBit] using merged_bit h tr ht⟩
end
/-- Its memory. -/
theorem merged_ta {w wb : World} {g3 L : Nat} {ac : List Bool} {lf cl : List Nat} {t : List (List (List Nat))} {va vl vb : Value} (h : PlS wb w g3 L (mgSt cl ac.length) va vl vb (mgAcc ac cl ac.length) (mgLv lf cl lf.length) (mgI L ac.length t cl ac.length)) :
    IsTA w w.heap.size (.agg #[.int .i64 L, .int .i64 (mgSt cl ac.length), va, vl, vb]) (mergedA L ac lf cl t) := by
  have h1' : w.ownsRow wb.heap.size 3 1 va ((mgAcc ac cl ac.length).map fun i : Nat => (i : Int)).length ((mgAcc ac cl ac.length).map encN) := by simpa using h.acc
  obtain ⟨A1, c1, rfl, s1⟩ := sl_own (enc := encI) h1' (fun k j d hd hj => by
    have hj0 : j = 0 := by omega
    subst hj0
    rw [List.getElem?_map] at hd
    rw [Nat.mul_one, Nat.add_zero, List.getElem?_map]
    cases hk : (mgAcc ac cl ac.length)[k]? with
    | none => rw [hk] at hd; cases hd
    | some i =>
      rw [hk] at hd
      have := Option.some.inj hd
      subst this
      rfl)
  obtain ⟨A2, c2, rfl, s2⟩ := sl_own (enc := encL) h.lvs (fun k j d hd hj => flat2 _ k j d hd hj)
  obtain ⟨A3, c3, rfl, s3⟩ := sl_own (enc := encBr) h.brs (fun k j d hd hj => flat4 _ k j d hd hj)
  exact ⟨A1, c1, A2, c2, A3, c3, rfl, s1, s2, s3⟩
end Go.Proofs.Ytnimlcbgeiajiaa

namespace Go.Proofs.Ytnimlcbgeiajiaa
open Go.RowKit

set_option maxHeartbeats 8000000 in
set_option maxRecDepth 100000 in
theorem merged_any {w : World} {base gM L : Nat} {d : Int} {vacc vleaf vbr : Value} {ac : List Bool} {lf : List Nat} {t : List (List (List Nat))} (hM : MachA w base gM L vacc vleaf vbr ac lf t) (hok : MOK L ac lf t) (h1 : 1 ≤ L) (hL : L ≤ 8) (hn : ac.length ≤ 64) (h0 : 0 < ac.length) :
    Calls Try.prog 51 #[.pointer (some ⟨gM, 0, none⟩), .int .i64 d, .int .i64 64] w (Ret fun v w' => Below w.heap.size w w' ∧ (v = .pointer none ∨
      ∃ (gM' : Nat) (ac' : List Bool) (lf' : List Nat) (t' : List (List (List Nat))), v = .pointer (some ⟨gM', 0, none⟩) ∧ w.heap.size ≤ gM' ∧ Mach w' w.heap.size gM' L ac' lf' t' ∧ MOK L ac' lf' t' ∧ ac'.length ≤ 64 ∧
        ∀ tr : Tr, tr.ok L → macc ac (runT (mleaf lf) (mbr t) tr) = true → macc ac' (runT (mleaf lf') (mbr t') tr) = true)) := by
  have hOK := hide hok
  clear hok
  go_enter Try.func51, Try.ntmps51
  go_wp2_with fail
  refine Calls.ret (classes_any hM hOK.out hL (by omega) h0) ?_
  rintro v w1 ⟨hb1, go, cl, rfl, hrow, hcls⟩
  have hCL := hide hcls
  clear hcls
  have hsz1 := hb1.size
  have hM1 := hM.keep (Kept.of_below hb1 (fun _ => False)) (fun _ _ _ h => h.elim)
  obtain ⟨wb, hwb, hbb, hg3, hkb⟩ := box_blk w1 #[.int .i64 L, .int .i64 0, .slice none 0 0, .slice none 0 0, .slice none 0 0] 26
  have hMb := hM1.keep hkb (fun _ _ _ h => h.elim)
  have hrb := own_ty hkb hrow (fun _ _ h => h.elim)
  have hcm1 := hM1.blk.cell
  obtain ⟨A, c, rfl⟩ := slice_of_own hMb.acc
  have hgM1 := hM1.blk.lt
  have hclen : cl.length = ac.length := by simpa using hrow.1
  have hP0 : PlS wb wb w1.heap.size L 0 (.slice none 0 0) (.slice none 0 0) (.slice none 0 0) [] [] [] := ⟨Kept.refl _ _, hg3, own_nil, own_nil, own_nil⟩
  have hszb := hbb.size
  have hcs : ∀ i, clN cl i ≤ 200 := fun i => by
    by_cases hi : i < ac.length
    · have := hCL.out.lt i hi
      unfold clN
      omega
    · unfold clN
      rw [List.getD_eq_getElem?_getD, List.getElem?_eq_none (by omega)]
      simp
  have hCS := hide hcs
  have hWB := hide hwb
  clear hwb
  have hLN := hide hclen
  clear hcs hclen
  go_wp2_with fail
  rw [hWB.out]
  refine mg_accept hMb (by omega) hrb hCS.out hP0 hg3 ?_ ?_
  · repeat (first | exact Reg.NoQ.body (fun _ _ h => h) (fun _ h => h) | refine Reg.NoQ.then ?_ | refine Reg.NoQ.inBlock ?_)
  iterate 27 (intro _)
  intro w3 v3 hP3
  have hkeep : ∀ (w' : World) (n' : Nat) (a1 a2 a3 : Value) (al : List Nat) (lv : List Leaf) (br : List Branch), PlS wb w' w1.heap.size L n' a1 a2 a3 al lv br → MachA w' base gM L (.slice A ac.length c) vleaf vbr ac lf t   := fun _ _ _ _ _ _ _ _ h => hMb.keep h.kept (fun k t cs hx hb => by
    subst hx
    have := blk_ty hg3 hb
    subst this
    decide)
  have hKP := hide hkeep
  have hM3 := hkeep _ _ _ _ _ _ _ _ hP3
  clear hkeep
  obtain ⟨A2, c2, hA2⟩ := slice_of_own hM3.lfs
  subst hA2
  have hcm3 := hM3.blk.cell
  clear hcm1 hgM1
  go_wp2_with fail
  refine mg_leaves hMb hOK.out hL hrb hLN.out hP3 hg3 ?_ ?_
  · repeat (first | exact Reg.NoQ.body (fun _ _ h => h) (fun _ h => h) | refine Reg.NoQ.then ?_ | refine Reg.NoQ.inBlock ?_)
  iterate 19 (intro _)
  intro w4 v4 hP4
  have hM4 := hKP.out _ _ _ _ _ _ _ _ hP4
  have hcm4 := hM4.blk.cell
  clear hcm3
  go_wp2_with fail
  refine mg_i hMb hOK.out hL hrb hLN.out (by omega) hP4 hg3 ?_ ?_
  · repeat (first | exact Reg.NoQ.body (fun _ _ h => h) (fun _ h => h) | refine Reg.NoQ.then ?_ | refine Reg.NoQ.inBlock ?_)
  iterate 55 (intro _)
  intro w5 v5 hP5
  have hTA := hide (merged_ta hP5)
  have hval := hide (merged_valid hOK.out h1 hL hn (fun i hi => hCL.out.lt i hi) (cl := cl))
  obtain ⟨A3, c3, rfl⟩ := slice_of_own hP5.acc
  obtain ⟨A4, c4, rfl⟩ := slice_of_own hP5.lvs
  obtain ⟨A5, c5, rfl⟩ := slice_of_own hP5.brs
  have hc5 := hP5.blk.cell
  have hbg : (mergedA L ac lf cl t).branches.length ≤ 900000 := by
    have h1 := mgI_len L ac.length t cl ac.length
    have h3 : ac.length * L ≤ 64 * 8 := Nat.mul_le_mul hn hL
    have h2 : ac.length * (ac.length * L) ≤ 64 * (64 * 8) := Nat.mul_le_mul hn h3
    show (mgI L ac.length t cl ac.length).length ≤ _
    omega
  have hBG := hide hbg
  have hbel : Below w.heap.size w w5 := hb1.trans ((hbb.trans (hP5.kept.below hszb (fun b hb (e : b = w1.heap.size) => by omega))).mono hsz1)
  have hsz5 := hbel.size
  clear hcm4 hbg
  go_wp2_with fail
  have hLL : (mergedA L ac lf cl t).letters.toNat = L := Int.toNat_natCast _
  have hlng := hide (fun tr htr ha => merged_lang (cl := cl) hOK.out tr htr ha)
  have hD := determine_any _ (mergedA L ac lf cl t) w5 hTA.out hval.out hBG.out
  rw [hLL] at hD
  refine Calls.ret hD ?_
  clear hD
  rintro v w6 ⟨hb6, l, hn6, hR, hres⟩
  have hRR := hide hR
  have hNN := hide hn6
  clear hR hn6
  rcases hres with ⟨rfl, hl⟩ | ⟨gM', lf', t', rfl, hgM', hM', hlf, hLf, hT, htl, hl64⟩
  · go_wp2_with fail
    go_ret
    exact ⟨hbel.trans (hb6.mono hsz5), .inl rfl⟩
  · obtain ⟨hok', hrun', hacc'⟩ := built_ok (acc := (mergedA L ac lf cl t).accS) hNN.out hRR.out hlf hLf hT htl
    have hOO := hide hok'
    have hAA := hide hacc'
    obtain ⟨vacc', vleaf', vbr', hMA⟩ := hM'
    have hMM := hide hMA
    have hlen : (l.map (mergedA L ac lf cl t).accS).length ≤ 64 := by simpa using hl64
    have hpos2 := hOO.out.pos h1
    have hsz6 := hb6.size
    clear hok' hacc' hlf hLf hT htl hMA hrun'
    go_wp2_with fail
    refine Calls.ret (minimal_any hMM.out hOO.out h1 hL (by omega) hpos2) ?_
    rintro v w7 ⟨hb7, gM2, ac2, lf2, t2, rfl, hgM2, hM2, hok2, hle2, hcan2⟩
    have hM22 := hide hM2
    have hok22 := hide hok2
    have hcan22 := hide hcan2
    clear hM2 hok2 hcan2
    go_wp2_with fail
    go_ret
    refine ⟨(hbel.trans (hb6.mono hsz5)).trans (hb7.mono (by omega)), .inr ⟨gM2, ac2, lf2, t2, rfl, by omega, hM22.out.weak (by omega), hok22.out, by omega, fun tr htr ha => ?_⟩⟩
    rw [hcan22.out.lang tr htr, hAA.out tr htr]
    exact hlng.out tr htr ha
end Go.Proofs.Ytnimlcbgeiajiaa

namespace Go.Proofs.Ytnimlcbgeiajiaa
open Go.RowKit

/-- What Merge returns. -/
def MergeRes (w' : World) (base : Nat) (a : TA) (v : Value) : Prop :=
  (∃ e : Int, e ≠ 0 ∧ v = .tuple #[zeroTA, .int .i64 e]) ∨
  (a.valid = true ∧ ∃ ac lf t va, v = .tuple #[va, .int .i64 0] ∧ MOK a.letters.toNat ac lf t ∧ ac.length ≤ 64 ∧ (∀ tr : Tr, tr.ok a.letters.toNat → a.lang tr = true → macc ac (runT (mleaf lf) (mbr t) tr) = true) ∧
    OwnTA w' base va a.letters.toNat ac.length (accIdx ac) (plLv lf) (plBr a.letters.toNat ac.length t))

set_option maxHeartbeats 4000000 in
set_option maxRecDepth 100000 in
theorem Merge_any (v : Value) (a : TA) (d : Int) (w : World) (h : IsTA w w.heap.size v a) (hbig : a.branches.length ≤ 900000) :
    Calls Try.prog 25 #[v, .int .i64 d] w (Ret fun v w' => Below w.heap.size w w' ∧ MergeRes w' w.heap.size a v) := by
  obtain ⟨A1, c1, A2, c2, A3, c3, rfl, h1, h2, h3⟩ := h
  obtain ⟨w1, hw1, hb1, hB1, hk1⟩ := box_blk w #[.int .i64 a.letters, .int .i64 a.states, .slice A1 a.accept.length c1, .slice A2 a.leaves.length c2, .slice A3 a.branches.length c3] 26
  obtain ⟨w2, hw2, hb2, hB2, hk2⟩ := box_blk w1 #[.int .i64 0, .int .i64 0, .slice none 0 0, .slice none 0 0, .slice none 0 0] 26
  have hsz1 := hb1.size
  have hsz2 := hb2.size
  have hB12 := hB1.kept hk2 id
  have hcb := hB12.cell
  have hb02 : Below w.heap.size w w2 := hb1.trans (hb2.mono hsz1)
  have hT : IsTA w2 w2.heap.size (.agg #[.int .i64 a.letters, .int .i64 a.states, .slice A1 a.accept.length c1, .slice A2 a.leaves.length c2, .slice A3 a.branches.length c3]) a :=
    IsTA.keep ⟨A1, c1, A2, c2, A3, c3, rfl, h1, h2, h3⟩ (fun _ hp => hb02.cell hp) (by omega)
  have hTT := hide hT
  clear hT h1 h2 h3
  go_enter Try.func25, Try.ntmps25
  go_wp2_with fail
  refine (validate_any _ a w2 hTT.out).mono ?_
  rintro e w3 ⟨rfl, hb3⟩
  have hB13 := hB12.below hb3
  have hB23 := hB2.below hb3
  have hcb3 := hB13.cell
  have hc23 := hB23.cell
  have hf23 := hB23.frozen
  have hsz3 := hb3.size
  have hlt3 := hB23.lt
  have hb03 : Below w.heap.size w w3 := hb02.trans (hb3.mono (by omega))
  cases hv : a.valid with
  | false =>
    have hvv := hide hv
    clear hv
    have he : errno false = 1 := rfl
    rw [he]
    go_wp2_with fail
    obtain ⟨wF, hwF, hgF, hkF⟩ := set5_facts hB23 (.int .i64 0) (.int .i64 0) (.slice none 0 0) (.slice none 0 0) (.slice none 0 0)
    change bodyPost _ _ _ _ _ (set5 w3 w1.heap.size (.int .i64 0) (.int .i64 0) (.slice none 0 0) (.slice none 0 0) (.slice none 0 0))
    rw [hwF]
    have hcF := hgF.cell
    exact bodyPost_ret (v := .tuple #[zeroTA, .int .i64 1]) (by simp [results, Try.results25, go_sem, hcF, zeroTA]) rfl ⟨hb03.trans (hkF.below (by omega) (fun b hb e => by omega)), .inl ⟨1, by omega, rfl⟩⟩
  | true =>
    have hvv := hide hv
    have hbg := hide hbig
    clear hv hbig
    have he : errno true = 0 := rfl
    rw [he]
    have hT3 : IsTA w3 w3.heap.size (.agg #[.int .i64 a.letters, .int .i64 a.states, .slice A1 a.accept.length c1, .slice A2 a.leaves.length c2, .slice A3 a.branches.length c3]) a := hTT.out.keep (fun _ hp => hb3.cell hp) hsz3
    have hT33 := hide hT3
    clear hT3 he
    by_cases hd0 : d < 0
    · go_wp2_with fail
      obtain ⟨wF, hwF, hgF, hkF⟩ := set5_facts hB23 (.int .i64 0) (.int .i64 0) (.slice none 0 0) (.slice none 0 0) (.slice none 0 0)
      change bodyPost _ _ _ _ _ (set5 w3 w1.heap.size (.int .i64 0) (.int .i64 0) (.slice none 0 0) (.slice none 0 0) (.slice none 0 0))
      rw [hwF]
      have hcF := hgF.cell
      exact bodyPost_ret (v := .tuple #[zeroTA, .int .i64 1]) (by simp [results, Try.results25, go_sem, hcF, zeroTA]) rfl ⟨hb03.trans (hkF.below (by omega) (fun b hb e => by omega)), .inl ⟨1, by omega, rfl⟩⟩
    by_cases hd8 : 8 < d
    · go_wp2_with fail
      obtain ⟨wF, hwF, hgF, hkF⟩ := set5_facts hB23 (.int .i64 0) (.int .i64 0) (.slice none 0 0) (.slice none 0 0) (.slice none 0 0)
      change bodyPost _ _ _ _ _ (set5 w3 w1.heap.size (.int .i64 0) (.int .i64 0) (.slice none 0 0) (.slice none 0 0) (.slice none 0 0))
      rw [hwF]
      have hcF := hgF.cell
      exact bodyPost_ret (v := .tuple #[zeroTA, .int .i64 1]) (by simp [results, Try.results25, go_sem, hcF, zeroTA]) rfl ⟨hb03.trans (hkF.below (by omega) (fun b hb e => by omega)), .inl ⟨1, by omega, rfl⟩⟩
    go_wp2_with fail
    refine Calls.ret (treeMin_any _ a w3 hT33.out hvv.out hbg.out) ?_
    rintro v w4 ⟨hb4, hres⟩
    have hB24 := hB23.below hb4
    have hc24 := hB24.cell
    have hf24 := hB24.frozen
    have hsz4 := hb4.size
    have hlt4 := hB24.lt
    have hb04 : Below w.heap.size w w4 := hb03.trans (hb4.mono (by omega))
    rcases hres with ⟨rfl, hlg⟩ | ⟨gM, ac, lf, t, rfl, hgM, hM, hok, hle, hnl, hcan⟩
    · have hL := hide hlg
      clear hlg
      go_wp2_with fail
      obtain ⟨wF, hwF, hgF, hkF⟩ := set5_facts hB24 (.int .i64 0) (.int .i64 0) (.slice none 0 0) (.slice none 0 0) (.slice none 0 0)
      change bodyPost _ _ _ _ _ (set5 w4 w1.heap.size (.int .i64 0) (.int .i64 0) (.slice none 0 0) (.slice none 0 0) (.slice none 0 0))
      rw [hwF]
      have hcF := hgF.cell
      exact bodyPost_ret (v := .tuple #[zeroTA, .int .i64 4]) (by simp [results, Try.results25, go_sem, hcF, zeroTA]) rfl ⟨hb04.trans (hkF.below (by omega) (fun b hb e => by omega)), .inl ⟨4, by omega, rfl⟩⟩
    · obtain ⟨u1, u2, u3, hMA⟩ := hM
      have hMM := hide hMA
      have hOO := hide hok
      have hNL := hide hnl
      have hCC := hide hcan
      have hv2 := hvv.out
      have hL18 : 1 ≤ a.letters.toNat ∧ a.letters.toNat ≤ 8 := by
        simp only [TA.valid, TA.head, Bool.and_eq_true, decide_eq_true_eq] at hv2
        omega
      obtain ⟨hL1, hL8⟩ := hL18
      clear hMA hok hnl hcan hv2
      go_wp2_with fail
      have hp0 := hOO.out.pos hL1
      refine Calls.ret (merged_any hMM.out hOO.out hL1 hL8 hle hp0) ?_
      rintro v w4' ⟨hb4', hmres⟩
      have hB24' := hB24.below hb4'
      have hc24' := hB24'.cell
      have hf24' := hB24'.frozen
      have hsz4' := hb4'.size
      have hlt4' := hB24'.lt
      have hb04' : Below w.heap.size w w4' := hb04.trans (hb4'.mono (by omega))
      clear hc24 hf24 hc23 hf23 hcb3 hcb hp0
      rcases hmres with rfl | ⟨gM2, ac2, lf2, t2, rfl, hgM2, hM2, hok2, hle2, hlang2⟩
      · go_wp2_with fail
        obtain ⟨wF, hwF, hgF, hkF⟩ := set5_facts hB24' (.int .i64 0) (.int .i64 0) (.slice none 0 0) (.slice none 0 0) (.slice none 0 0)
        change bodyPost _ _ _ _ _ (set5 w4' w1.heap.size (.int .i64 0) (.int .i64 0) (.slice none 0 0) (.slice none 0 0) (.slice none 0 0))
        rw [hwF]
        have hcF := hgF.cell
        exact bodyPost_ret (v := .tuple #[zeroTA, .int .i64 4]) (by simp [results, Try.results25, go_sem, hcF, zeroTA]) rfl ⟨hb04'.trans (hkF.below (by omega) (fun b hb e => by omega)), .inl ⟨4, by omega, rfl⟩⟩
      obtain ⟨y1, y2, y3, hMA2⟩ := hM2
      have hMM2 := hide hMA2
      have hOO2 := hide hok2
      have hLG2 := hide hlang2
      clear hMA2 hok2 hlang2
      go_wp2_with fail
      refine Calls.ret (plain_any hMM2.out hOO2.out hL8 (by omega)) ?_
      rintro v w5 ⟨hb5, va, vl, vb, rfl, ho1, ho2, ho3⟩
      obtain ⟨A5, d5, rfl⟩ := slice_of_own ho1
      obtain ⟨A6, d6, rfl⟩ := slice_of_own ho2
      obtain ⟨A7, d7, rfl⟩ := slice_of_own ho3
      have hB25 := hB24'.below hb5
      have hc25 := hB25.cell
      have hf25 := hB25.frozen
      have hsz5 := hb5.size
      have hlt5 := hB25.lt
      have hb05 : Below w.heap.size w w5 := hb04'.trans (hb5.mono (by omega))
      clear hc24' hf24'
      generalize hLe : a.letters.toNat = L at *
      have hLh := hide hLe
      clear hLe
      go_wp2_with fail
      obtain ⟨wF, hwF, hgF, hkF⟩ := set5_facts hB25 (.int .i64 (L : Int)) (.int .i64 (ac2.length : Int)) (.slice A5 (accIdx ac2).length d5) (.slice A6 (plLv lf2).length d6) (.slice A7 (plBr L ac2.length t2).length d7)
      change bodyPost _ _ _ _ _ (set5 w5 w1.heap.size (.int .i64 (L : Int)) (.int .i64 (ac2.length : Int)) (.slice A5 (accIdx ac2).length d5) (.slice A6 (plLv lf2).length d6) (.slice A7 (plBr L ac2.length t2).length d7))
      rw [hwF]
      have hcF := hgF.cell
      have hLx := hLh.out
      subst hLx
      have hne : ∀ e, e ≠ 26 → ∀ g cs, g = w1.heap.size → ¬ Blk w5 g e cs := fun e he g cs eg hb => by subst eg; exact hB25.ne_ hb (fun h => he h.symm) rfl
      refine bodyPost_ret (v := .tuple #[.agg #[.int .i64 (a.letters.toNat : Int), .int .i64 (ac2.length : Int), .slice A5 (accIdx ac2).length d5, .slice A6 (plLv lf2).length d6, .slice A7 (plBr a.letters.toNat ac2.length t2).length d7], .int .i64 0]) (by simp [results, Try.results25, go_sem, hcF]) rfl ⟨hb05.trans (hkF.below (by omega) (fun b hb e => by omega)), .inr ⟨hvv.out, ac2, lf2, t2, _, rfl, hOO2.out, hle2, fun tr htr ha => hLG2.out tr htr ((hCC.out.lang tr htr).trans ha), _, _, _, rfl, ?_, ?_, ?_⟩⟩
      · exact own_weak (own_ty hkF ho1 (hne 3 (by decide))) (by omega)
      · exact own_weak (own_ty hkF ho2 (hne 36 (by decide))) (by omega)
      · exact own_weak (own_ty hkF ho3 (hne 59 (by decide))) (by omega)

end Go.Proofs.Ytnimlcbgeiajiaa

namespace Go.Proofs.Ytnimlcbgeiajiaa
open Go.RowKit

def inC (n lo hi : Int) : Bool := decide (lo ≤ n) && decide (n ≤ hi)

theorem inR_inC (n lo hi : Int) : inR n lo hi = inC n lo (hi - 1) := by
  unfold inR inC; congr 1; exact decide_eq_decide.2 (by omega)

set_option maxHeartbeats 400000 in
theorem within_any (n lo hi : Int) (w : World) : Calls Try.prog 45 #[.int .i64 n, .int .i64 lo, .int .i64 hi] w fun e w' => e = .returned (.bool (inC n lo hi)) ∧ w = w' := by
  by_cases h : lo ≤ n
  all_goals
    go_enter Try.func45, Try.ntmps45
    go_wp2
    go_ret
    exact ⟨by simp [inC]; omega, rfl⟩

set_option maxHeartbeats 4000000 in
set_option maxRecDepth 100000 in
theorem refValidate_head (v : Value) (a : TA) (w : World) (h : IsTA w w.heap.size v a) (hL : 1 ≤ a.letters ∧ a.letters ≤ 8 ∧ 0 ≤ a.states ∧ a.states ≤ 64) :
    Calls Try.prog 19 #[v] w fun e w' =>
      e = .returned (.int .i64 (errno a.valid)) ∧ Below w.heap.size w w' := by
  obtain ⟨A1, c1, A2, c2, A3, c3, rfl, h1, h2, h3⟩ := h
  have HH : Hid (a.head = true) := by show a.head = true; simp [TA.head]; omega
  obtain ⟨L, S, acc, lv, br⟩ := a
  dsimp only at *
  have hn1 := h1.1
  have hn2 := h2.1
  have hn3 := h3.1
  have hcL : inC L 1 8 = true := by simp [inC]; omega
  have hcS : inC S 0 64 = true := by simp [inC]; omega
  have HcL := hide hcL
  have HcS := hide hcS
  clear hcL hcS
  go_enter Try.func19, Try.ntmps19
  go_wp2_with (go_at_call 45; refine (within_any _ _ _ _).mono ?_; rintro e w' ⟨rfl, rfl⟩; (first | rw [HcL.out] | rw [HcS.out]))
  obtain ⟨w1, hw1, hb1, hg1, hB1⟩ := box_facts w #[.int .i64 L, .int .i64 S, .slice A1 acc.length c1, .slice A2 lv.length c2, .slice A3 br.length c3] 26
  rw [hw1]
  clear hw1
  go_loopw [3] (fun i wr => ∃ k : Nat, k ≤ acc.length ∧ i = .int .i64 k ∧ (acc.take k).all (inR · 0 S) ∧ Below w1.heap.size w1 wr) (fun i _ => acc.length - (intOf i).toNat)
  case atStart => exact ⟨0, Nat.zero_le _, rfl, by simp, Below.refl _ _⟩
  case round =>
    obtain ⟨k, hk, rfl, hall, hbr⟩ := hrel
    obtain ⟨hg2, hB2⟩ := box_later hbr hg1 hB1
    by_cases hlt : k < acc.length
    · obtain ⟨b, off, x, rfl, hb, hx, hc⟩ := h1.at hlt
      have hc0 := (hbr.cell (by show b < _; omega)).trans ((hb1.cell (by exact hb)).trans (hc 0 (by omega)))
      simp only [Nat.mul_one, Nat.add_zero, encI] at hc0
      clear hc
      have HX := hide hx
      clear hx
      go_wp2_with fail
      refine Reg.region_ints' [0, 1, 0, 7, 15, 0, 32, 96, 255, 511] (by kernel_rfl) (by repeat (first | exact Reg.NoQ.body (fun _ _ h => Ending.noConfusion h.1) (fun _ h => Ending.noConfusion h.1) | refine Reg.NoQ.then ?_ | refine Reg.NoQ.inBlock ?_)) ?_
      intro Qf hQf
      go_wp2_with (go_at_call 45; refine (within_any _ _ _ _).mono ?_; rintro e w' ⟨rfl, rfl⟩)
      refine ⟨rfl, ?_⟩
      go_wp2
      · go_ret
        exact ⟨by rw [TA.valid]; dsimp only; rw [all_false HX.out (by rw [inR_inC]; simp_all)]; simp [errno], (hb1.trans (hbr.mono (by omega))).drew⟩
      · go_roundw
        case rel => exact ⟨k + 1, by omega, by go_num, all_take_succ HX.out hall (by rw [inR_inC]; simp_all), hbr.drew⟩
        case measure => simp [intOf]; omega
    · have HA := hide (all_done (by omega) hall)
      clear hall
      go_wp2_with fail
      obtain ⟨wa, rfl⟩ : ∃ wa : World, wa = wr := ⟨_, rfl⟩
      go_loopw [4] (fun i wr2 => ∃ k : Nat, k ≤ lv.length ∧ i = .int .i64 k ∧ (lv.take k).all (okLeaf L S) ∧ Below wa.heap.size wa wr2) (fun i _ => lv.length - (intOf i).toNat)
      case atStart => exact ⟨0, Nat.zero_le _, rfl, by simp, Below.refl _ _⟩
      case round =>
        obtain ⟨k, hk, rfl, hall, hbr2⟩ := hrel
        obtain ⟨hg3, hB3⟩ := box_later hbr2 hg2 hB2
        by_cases hlt : k < lv.length
        · obtain ⟨b, off, x, rfl, hb, hx, hc⟩ := h2.at hlt
          have hcc := fun j hj => (hbr2.cell (by show b < _; omega)).trans ((hbr.cell (by show b < _; omega)).trans ((hb1.cell (by exact hb)).trans (hc j hj)))
          have hc0 := hcc 0 (by omega)
          have hc1 := hcc 1 (by omega)
          simp only [Nat.add_zero, encL] at hc0 hc1
          clear hc hcc
          have HX := hide hx
          clear hx
          go_wp2_with fail
          refine Reg.region_ints' [0, 1, 0, 7, 15, 31, 0, 64, 192, 511, 1023, 2047, 4095, 8191, 4095, 32767, 65535, 131071, 4095, 266239, 790527, 2097151, 4194303, 8388607] (by kernel_rfl) (by repeat (first | exact Reg.NoQ.body (fun _ _ h => Ending.noConfusion h.1) (fun _ h => Ending.noConfusion h.1) | refine Reg.NoQ.then ?_ | refine Reg.NoQ.inBlock ?_)) ?_
          intro Qf hQf
          go_wp2_with (go_at_call 45; refine (within_any _ _ _ _).mono ?_; rintro e w' ⟨rfl, rfl⟩)
          all_goals refine ⟨rfl, ?_⟩
          all_goals go_wp2
          all_goals try rw [Bool.not_eq_true] at *
          · go_ret
            exact ⟨by rw [TA.valid]; dsimp only; rw [all_false HX.out (by rw [okLeaf, inR_inC, inR_inC]; simp_all)]; simp [errno], ((hb1.trans (hbr.mono (by omega))).trans (hbr2.mono (by omega))).drew⟩
          · go_roundw
            case rel => exact ⟨k + 1, by omega, by go_num, all_take_succ HX.out hall (by rw [okLeaf, inR_inC, inR_inC]; simp_all), hbr2.drew⟩
            case measure => simp [intOf]; omega
          · go_ret
            exact ⟨by rw [TA.valid]; dsimp only; rw [all_false HX.out (by rw [okLeaf, inR_inC, inR_inC]; simp_all)]; simp [errno], ((hb1.trans (hbr.mono (by omega))).trans (hbr2.mono (by omega))).drew⟩
        · have HA2 := hide (all_done (by omega) hall)
          clear hall
          go_wp2_with fail
          obtain ⟨wb, rfl⟩ : ∃ wb : World, wb = wr := ⟨_, rfl⟩
          go_loopw [5] (fun i wr2 => ∃ k : Nat, k ≤ br.length ∧ i = .int .i64 k ∧ (br.take k).all (okBranch L S) ∧ Below wb.heap.size wb wr2) (fun i _ => br.length - (intOf i).toNat)
          case atStart => exact ⟨0, Nat.zero_le _, rfl, by simp, Below.refl _ _⟩
          case round =>
            obtain ⟨k, hk, rfl, hall, hbr3⟩ := hrel
            obtain ⟨hg4, hB4⟩ := box_later hbr3 hg3 hB3
            by_cases hlt : k < br.length
            · obtain ⟨b, off, x, rfl, hb, hx, hc⟩ := h3.at hlt
              have hcc := fun j hj => (hbr3.cell (by show b < _; omega)).trans ((hbr2.cell (by show b < _; omega)).trans ((hbr.cell (by show b < _; omega)).trans ((hb1.cell (by exact hb)).trans (hc j hj))))
              have hc0 := hcc 0 (by omega)
              have hc1 := hcc 1 (by omega)
              have hc2 := hcc 2 (by omega)
              have hc3 := hcc 3 (by omega)
              simp only [Nat.add_zero, encBr] at hc0 hc1 hc2 hc3
              clear hc hcc
              have HX := hide hx
              clear hx
              go_wp2_with (go_at_call 45; refine (within_any _ _ _ _).mono ?_; rintro e w' ⟨rfl, rfl⟩)
              all_goals try rw [Bool.not_eq_true] at *
              · go_ret
                exact ⟨by rw [TA.valid]; dsimp only; rw [all_false HX.out (by rw [okBranch, inR_inC, inR_inC, inR_inC, inR_inC]; simp_all)]; simp [errno], (((hb1.trans (hbr.mono (by omega))).trans (hbr2.mono (by omega))).trans (hbr3.mono (by omega))).alloc (by omega) _⟩
              · go_roundw
                case rel => exact ⟨k + 1, by omega, by go_num, all_take_succ HX.out hall (by rw [okBranch, inR_inC, inR_inC, inR_inC, inR_inC]; simp_all), hbr3.alloc hbr3.size _⟩
                case measure => simp [intOf]; omega
              all_goals
                go_ret
                exact ⟨by rw [TA.valid]; dsimp only; rw [all_false HX.out (by rw [okBranch, inR_inC, inR_inC, inR_inC, inR_inC]; simp_all)]; simp [errno], (((hb1.trans (hbr.mono (by omega))).trans (hbr2.mono (by omega))).trans (hbr3.mono (by omega))).alloc (by omega) _⟩
            · have HA3 := hide (all_done (by omega) hall)
              clear hall
              go_wp2_with fail
              go_ret
              exact ⟨by rw [TA.valid, HH.out]; dsimp only; rw [HA.out, HA2.out, HA3.out]; rfl, ((hb1.trans (hbr.mono (by omega))).trans (hbr2.mono (by omega))).trans (hbr3.mono (by omega))⟩

set_option maxHeartbeats 1000000 in
set_option maxRecDepth 100000 in
theorem refValidate_any (v : Value) (a : TA) (w : World) (h : IsTA w w.heap.size v a) :
    Calls Try.prog 19 #[v] w fun e w' => e = .returned (.int .i64 (errno a.valid)) ∧ Below w.heap.size w w' := by
  by_cases hh : a.head = true
  · refine refValidate_head v a w h ?_
    simp [TA.head] at hh
    omega
  · obtain ⟨A1, c1, A2, c2, A3, c3, rfl, h1, h2, h3⟩ := h
    have hE : errno a.valid = 1 := by simp [TA.valid, hh, errno]
    rw [hE]
    have hcase : inC a.letters 1 8 = false ∨ (inC a.letters 1 8 = true ∧ inC a.states 0 64 = false) := by
      by_cases h1 : inC a.letters 1 8 = true
      · refine .inr ⟨h1, ?_⟩
        cases h2 : inC a.states 0 64
        · rfl
        · simp [inC] at h1 h2
          simp [TA.head] at hh
          omega
      · exact .inl (by simpa using h1)
    clear hh hE
    generalize a.letters = L at *
    generalize a.states = S at *
    rcases hcase with hc | ⟨hc, hc'⟩
    · have HC := hide hc
      clear hc
      go_enter Try.func19, Try.ntmps19
      go_wp2_with (go_at_call 45; refine (within_any _ _ _ _).mono ?_; rintro e w' ⟨rfl, rfl⟩; rw [HC.out])
      go_ret
      exact ⟨rfl, (Below.refl _ _).alloc (Nat.le_refl _) _⟩
    · have HC := hide hc
      have HC' := hide hc'
      clear hc hc'
      go_enter Try.func19, Try.ntmps19
      go_wp2_with (go_at_call 45; refine (within_any _ _ _ _).mono ?_; rintro e w' ⟨rfl, rfl⟩; (first | rw [HC.out] | rw [HC'.out]))
      go_ret
      exact ⟨rfl, (Below.refl _ _).alloc (Nat.le_refl _) _⟩
end Go.Proofs.Ytnimlcbgeiajiaa

namespace Go.Proofs.Ytnimlcbgeiajiaa
open Go.RowKit

def shGo : Int → List Int → Bool
  | o, [] => o == 0
  | o, c :: sh => o != 0 && (c == 0 || c == 2) && shGo (o + (c - 1)) sh
theorem vt_sh {L : Int} : ∀ (sh lb : List Int) (o : Int), lb.length = sh.length → vtGo L o sh lb = (shGo o sh && lb.all (inC · 0 (L - 1)))
  | [], [], o, _ => by simp [vtGo, shGo]
  | [], _ :: _, _, h => by simp at h
  | _ :: _, [], _, h => by simp at h
  | c :: sh, l :: lb, o, h => by
    have ih := vt_sh (L := L) sh lb (o + c - 1) (by simpa using h)
    have e : decide (l < L) = decide (l ≤ L - 1) := decide_eq_decide.2 (by omega)
    simp only [vtGo, shGo, List.all_cons, ih, show o + (c - 1) = o + c - 1 from by omega, e, inC]
    cases (o != 0) <;> cases (c == 0 || c == 2) <;> cases decide (0 ≤ l) <;> cases decide (l ≤ L - 1) <;> cases (shGo (o + c - 1) sh) <;> rfl
theorem shGo_step {o c : Int} {sh : List Int} {i : Nat} (hc : sh[i]? = some c) : shGo o (sh.drop i) = (o != 0 && (c == 0 || c == 2) && shGo (o + (c - 1)) (sh.drop (i + 1))) := by
  have h1 : sh.drop i = c :: sh.drop (i + 1) := by
    have := lt_of_get hc
    rw [List.drop_eq_getElem_cons this]
    rw [List.getElem?_eq_getElem this] at hc
    rw [Option.some.inj hc]
  rw [h1]
  rfl

set_option maxHeartbeats 4000000 in
set_option maxRecDepth 100000 in
theorem isShape_any {w : World} {B1 c1 : Nat} {A1 : Option Addr} {sh : List Int} (h1 : Sl w B1 1 encI A1 sh) (hs2 : sh.length ≤ 4095) :
    Calls Try.prog 80 #[.slice A1 sh.length c1] w fun e w' => e = .returned (.bool (shGo 1 sh)) ∧ w = w' := by
  go_enter Try.func80, Try.ntmps80
  go_wp2
  go_loop [3, 4] (fun oo ii => ∃ (i : Nat) (o : Int), ii = .int .i64 (i : Int) ∧ i ≤ sh.length ∧ oo = .int .i64 o ∧ 0 ≤ o ∧ o ≤ i + 1 ∧ Hid (shGo 1 sh = shGo o (sh.drop i))) (fun _ ii => sh.length - (intOf ii).toNat)
  case atStart => exact ⟨0, 1, rfl, Nat.zero_le _, rfl, by omega, by omega, rfl⟩
  case round =>
    obtain ⟨i, o, rfl, hi, rfl, ho0, ho1, hv⟩ := hrel
    by_cases hlt : i < sh.length
    · obtain ⟨b1, o1, c, rfl, hb1, hc, hcc⟩ := h1.at hlt
      have hc0 := hcc 0 (by omega)
      simp only [Nat.mul_one, Nat.add_zero, encI] at hc0
      have hst := hide (shGo_step (o := o) hc)
      clear hc hcc
      by_cases h0 : o = 0
      · subst h0
        go_wp2_with fail
        go_ret
        exact ⟨by rw [hv.out, hst.out]; rfl, rfl⟩
      · have h0' : (o == 0) = false := by simpa using h0
        by_cases hc2 : c = 0 ∨ c = 2
        · have h0n : (o != 0) = true := by simpa using h0
          rcases hc2 with rfl | rfl
          · have hfin : Hid (shGo 1 sh = shGo (o + -1) (sh.drop (i + 1))) := by
              show _ = _
              rw [hv.out, hst.out, h0n]
              rfl
            go_wp2_with fail
            exact ⟨⟨i + 1, o + -1, by simp, by omega, rfl, by omega, by omega, hfin.out⟩, by simp [intOf]; omega⟩
          · have hfin : Hid (shGo 1 sh = shGo (o + 1) (sh.drop (i + 1))) := by
              show _ = _
              rw [hv.out, hst.out, h0n]
              rfl
            go_wp2_with fail
            exact ⟨⟨i + 1, o + 1, by simp, by omega, rfl, by omega, by omega, hfin.out⟩, by simp [intOf]; omega⟩
        · have hn0 : (c != 0) = true := by simp; omega
          have hn2 : (c != 2) = true := by simp; omega
          have hfin : Hid (shGo 1 sh = false) := by
            show _ = _
            rw [hv.out, hst.out]
            have e1 : (c == 0) = false := by simp; omega
            have e2 : (c == 2) = false := by simp; omega
            simp [e1, e2]
          go_wp2_with fail
          go_ret
          exact ⟨by rw [hfin.out]; rfl, rfl⟩
    · have hfin : Hid (shGo 1 sh = (o == 0)) := by
        show _ = _
        rw [hv.out, List.drop_eq_nil_of_le (by omega)]
        rfl
      go_wp2_with fail
      go_ret
      exact ⟨by rw [hfin.out]; rfl, rfl⟩

set_option maxHeartbeats 4000000 in
set_option maxRecDepth 100000 in
theorem refValidTree_any {w : World} {B1 B2 c1 c2 : Nat} {A1 A2 : Option Addr} {L : Int} {sh lb : List Int} (h1 : Sl w B1 1 encI A1 sh) (h2 : Sl w B2 1 encI A2 lb) (hL : 1 ≤ L ∧ L ≤ 8) :
    Calls Try.prog 55 #[.int .i64 L, .slice A1 sh.length c1, .slice A2 lb.length c2] w fun e w' => e = .returned (.bool (validT L sh lb)) ∧ w = w' := by
  have hn1 := h1.1
  have hn2 := h2.1
  obtain ⟨hL1, hL8⟩ := hL
  cases hw : inC sh.length 1 4095
  · have hv : Hid (validT L sh lb = false) := by
      show _ = _
      simp [inC] at hw
      simp [validT]
      omega
    have hW := hide hw
    clear hw
    go_enter Try.func55, Try.ntmps55
    go_wp2_with (go_at_call 45; refine (within_any _ _ _ _).mono ?_; rintro e w' ⟨rfl, rfl⟩; rw [hW.out])
    go_ret
    exact ⟨by rw [hv.out]; rfl, rfl⟩
  · have hs2 : sh.length ≤ 4095 ∧ 1 ≤ sh.length := by simp [inC] at hw; omega
    have hW := hide hw
    clear hw
    by_cases hl : lb.length = sh.length
    · have hv0 : Hid (validT L sh lb = (shGo 1 sh && lb.all (inC · 0 (L - 1)))) := by
        show _ = _
        rw [← vt_sh sh lb 1 hl]
        simp [validT, hl, hs2.1, hs2.2]
      have hLl := hide hl
      rw [hl]
      cases hsh : shGo 1 sh
      · have hS := hide hsh
        clear hsh hl
        go_enter Try.func55, Try.ntmps55
        go_wp2_with (first | (go_at_call 45; refine (within_any _ _ _ _).mono ?_; rintro e w' ⟨rfl, rfl⟩; rw [hW.out]) | (go_at_call 80; refine (isShape_any h1 hs2.1).mono ?_; rintro e w' ⟨rfl, rfl⟩; rw [hS.out]))
        go_ret
        exact ⟨by rw [hv0.out, hS.out]; rfl, rfl⟩
      · have hS := hide hsh
        clear hsh hl
        go_enter Try.func55, Try.ntmps55
        go_wp2_with (first | (go_at_call 45; refine (within_any _ _ _ _).mono ?_; rintro e w' ⟨rfl, rfl⟩; rw [hW.out]) | (go_at_call 80; refine (isShape_any h1 hs2.1).mono ?_; rintro e w' ⟨rfl, rfl⟩; rw [hS.out]))
        go_loop [7] (fun ii => ∃ (i : Nat), ii = .int .i64 (i : Int) ∧ i ≤ sh.length ∧ Hid ((lb.take i).all (inC · 0 (L - 1)) = true)) (fun ii => sh.length - (intOf ii).toNat)
        case atStart => exact ⟨0, rfl, Nat.zero_le _, rfl⟩
        case round =>
          obtain ⟨i, rfl, hi, hE⟩ := hrel
          by_cases hlt : i < sh.length
          · obtain ⟨b, off, q, rfl, hbb, hx, hc⟩ := h2.at (k := i) (by rw [hLl.out]; exact hlt)
            have hc0 := hc 0 (by omega)
            simp only [Nat.mul_one, Nat.add_zero, encI] at hc0
            have hX := hide hx
            clear hx hc
            cases hq : inC q 0 (L - 1)
            · have hQ := hide hq
              clear hq
              go_wp2_with (go_at_call 45; refine (within_any _ _ _ _).mono ?_; rintro e w' ⟨rfl, rfl⟩; rw [hQ.out])
              go_ret
              exact ⟨by rw [hv0.out, hS.out, all_false hX.out hQ.out]; rfl, rfl⟩
            · have hQ := hide hq
              clear hq
              go_wp2_with (go_at_call 45; refine (within_any _ _ _ _).mono ?_; rintro e w' ⟨rfl, rfl⟩; rw [hQ.out])
              exact ⟨⟨i + 1, by go_num, by omega, all_take_succ hX.out hE.out hQ.out⟩, by simp [intOf]; omega⟩
          · have hA := hide (all_done (by rw [hLl.out]; omega) hE.out)
            go_wp2_with fail
            go_ret
            exact ⟨by rw [hv0.out, hS.out, hA.out]; rfl, rfl⟩
    · have hv : Hid (validT L sh lb = false) := by show _ = _; simp [validT, hl]
      have hne : ((lb.length : Int) != (sh.length : Int)) = true := by simp; omega
      clear hl
      go_enter Try.func55, Try.ntmps55
      go_wp2_with (go_at_call 45; refine (within_any _ _ _ _).mono ?_; rintro e w' ⟨rfl, rfl⟩; rw [hW.out])
      go_ret
      exact ⟨by rw [hv.out]; rfl, rfl⟩
end Go.Proofs.Ytnimlcbgeiajiaa

namespace Go.Proofs.Ytnimlcbgeiajiaa
open Go.RowKit

/-- Marks and a word say the same of all states. -/
def SameM (S : Nat) (m : List Bool) (M : Nat) : Prop := m.length = S ∧ ∀ q, q < S → m[q]?.getD false = M.testBit q
theorem SameM.zero (S : Nat) : SameM S (List.replicate S false) 0 := ⟨by simp, fun q hq => by simp [hq]⟩
theorem SameM.set {S : Nat} {m : List Bool} {M : Nat} (h : SameM S m M) {q : Int} (h0 : 0 ≤ q) (hq : q < S) : SameM S (setM m q) (setB M q) := by
  obtain ⟨q, rfl⟩ := Int.eq_ofNat_of_zero_le h0
  refine ⟨by rw [setM_len]; exact h.1, fun j hj => ?_⟩
  simp only [setM, setB, mOr, mPow, Int.toNat_natCast]
  rw [Nat.testBit_or, Nat.testBit_two_pow, List.getElem?_set]
  by_cases e : q = j
  · subst e
    simp [h.1, hj]
  · simp [e, h.2 j hj]
theorem SameM.bit {S : Nat} {m : List Bool} {M : Nat} (h : SameM S m M) {q : Int} (h0 : 0 ≤ q) (hq : q < S) : bitM m q = mBit M q := h.2 q.toNat (by omega)
theorem sameM_leaf {S : Nat} (x : Nat) : ∀ (l : List Leaf) (m : List Bool) (M : Nat), SameM S m M → (∀ e ∈ l, 0 ≤ e.to ∧ e.to < S) → SameM S (l.foldl (leafF x) m) (l.foldl (leafMF x) M)
  | [], _, _, h, _ => h
  | e :: l, m, M, h, hl => by
    refine sameM_leaf x l _ _ ?_ (fun e' he' => hl e' (List.mem_cons_of_mem _ he'))
    have := hl e List.mem_cons_self
    by_cases hx : e.letter = (x : Int)
    · simp only [leafF, leafMF, hx, if_true]
      exact h.set this.1 this.2
    · simp only [leafF, leafMF, hx, if_false]
      exact h
theorem sameM_br {S : Nat} (x : Nat) {s t : List Bool} {s' t' : Nat} (hs : SameM S s s') (ht : SameM S t t') : ∀ (l : List Branch) (m : List Bool) (M : Nat), SameM S m M →
    (∀ e ∈ l, (0 ≤ e.first ∧ e.first < S) ∧ (0 ≤ e.second ∧ e.second < S) ∧ (0 ≤ e.to ∧ e.to < S)) → SameM S (l.foldl (brF x s t) m) (l.foldl (brMF x s' t') M)
  | [], _, _, h, _ => h
  | e :: l, m, M, h, hl => by
    refine sameM_br x hs ht l _ _ ?_ (fun e' he' => hl e' (List.mem_cons_of_mem _ he'))
    obtain ⟨⟨h1, h2⟩, ⟨h3, h4⟩, h5, h6⟩ := hl e List.mem_cons_self
    simp only [brF, brMF, hs.bit h1 h2, ht.bit h3 h4]
    split
    · exact h.set h5 h6
    · exact h

def TA.marks (a : TA) (t : Tr) : List Bool := runT (leafR a.states.toNat a.leaves) (brR a.states.toNat a.branches) t
theorem TA.same_marks {a : TA} (hv : a.valid = true) (t : Tr) : SameM a.states.toNat (a.marks t) (a.mask t) := by
  simp only [TA.valid, TA.head, Bool.and_eq_true, decide_eq_true_eq] at hv
  obtain ⟨⟨⟨⟨⟨⟨-, -⟩, h3⟩, -⟩, -⟩, h6⟩, h7⟩ := hv
  have hl : ∀ e ∈ a.leaves, 0 ≤ e.to ∧ e.to < (a.states.toNat : Int) := fun e he => by
    have := List.all_eq_true.1 h6 e he
    simp only [okLeaf, inR, Bool.and_eq_true, decide_eq_true_eq] at this
    omega
  have hb : ∀ e ∈ a.branches, (0 ≤ e.first ∧ e.first < (a.states.toNat : Int)) ∧ (0 ≤ e.second ∧ e.second < (a.states.toNat : Int)) ∧ (0 ≤ e.to ∧ e.to < (a.states.toNat : Int)) := fun e he => by
    have := List.all_eq_true.1 h7 e he
    simp only [okBranch, inR, Bool.and_eq_true, decide_eq_true_eq] at this
    omega
  induction t with
  | leaf x => exact sameM_leaf x a.leaves _ _ (SameM.zero _) hl
  | node x s t ihs iht =>
    have := sameM_br x ihs iht a.branches _ _ (SameM.zero _) hb
    have e : a.mask (.node x s t) = a.branches.foldl (brMF x (a.mask s) (a.mask t)) 0 := by
      show brM _ _ _ = _
      unfold brM
      rw [brM_filter]
      rfl
    rw [e]
    exact this
theorem any_eq {l : List Int} {f g : Int → Bool} (h : ∀ q ∈ l, f q = g q) : l.any f = l.any g := by
  induction l with
  | nil => rfl
  | cons q l ih => rw [List.any_cons, List.any_cons, h q List.mem_cons_self, ih fun q' hq' => h q' (List.mem_cons_of_mem _ hq')]
theorem TA.lang_marks {a : TA} (hv : a.valid = true) (t : Tr) : meetsR a.accept (a.marks t) = a.lang t := by
  have h := TA.same_marks hv t
  obtain ⟨-, -, h3, -, h5, h6, -, -⟩ := TA.valid_parts hv
  have : a.lang t = a.accept.any (mBit (a.mask t)) := accS_any a _ fun q hq => (h6 q hq).1
  rw [this]
  refine any_eq fun q hq => ?_
  have := List.all_eq_true.1 h5 q hq
  simp only [inR, Bool.and_eq_true, decide_eq_true_eq] at this
  exact h.bit this.1 (by omega)

/-- The marks of the subtrees that wait, in memory. -/
structure KeptM (w : World) (base : Nat) (a : TA) (kk : Value) (us : List Value) (s : List Tr) : Prop where
  own : w.ownsRow base 79 1 kk s.length us
  row : ∀ (i : Nat) (u : Value) (t : Tr), us[i]? = some u → s.reverse[i]? = some t → Marks w w.heap.size a.states.toNat u (a.marks t)
theorem KeptM.len {w : World} {base : Nat} {a : TA} {kk : Value} {us : List Value} {s : List Tr} (h : KeptM w base a kk us s) : us.length = s.length := by simpa using h.own.1
theorem KeptM.keep {w w' : World} {base : Nat} {a : TA} {kk : Value} {us : List Value} {s : List Tr} (h : KeptM w base a kk us s) (hk : Kept w w' (fun _ => False)) : KeptM w' base a kk us s :=
  ⟨hk.ownsRow h.own (fun _ _ => id), fun i u t hu ht => ((h.row i u t hu ht).keep0 hk).mono hk.size⟩
theorem KeptM.push {w w' : World} {base : Nat} {a : TA} {kk kk' u : Value} {us : List Value} {s : List Tr} {t : Tr} (h : KeptM w base a kk us s) (hu : Marks w w.heap.size a.states.toNat u (a.marks t)) (hk : Kept w w' (fun k => kk.ownBlock = some k)) (hown : w'.ownsRow base 79 1 kk' (s.length + 1) (us ++ [u])) : KeptM w' base a kk' (us ++ [u]) (t :: s) := by
  have hX : ∀ g cs, kk.ownBlock = some g → g < w.heap.size → ¬ Blk w g 4 cs := fun g cs hx _ hb => own_blk_ne h.own hb (by decide) hx
  refine ⟨by simpa using hown, fun i u' t' hu' ht' => ?_⟩
  rw [List.reverse_cons] at ht'
  rcases Nat.lt_trichotomy i s.length with hlt | heq | hgt
  · rw [List.getElem?_append_left (by rw [h.len]; exact hlt)] at hu'
    rw [List.getElem?_append_left (by simpa using hlt)] at ht'
    exact ((h.row i u' t' hu' ht').keep hk hX).mono hk.size
  · rw [List.getElem?_append_right (by rw [h.len]; omega), h.len, heq, Nat.sub_self] at hu'
    rw [List.getElem?_append_right (by simp; omega), List.length_reverse, heq, Nat.sub_self] at ht'
    have e1 := Option.some.inj hu'
    have e2 := Option.some.inj ht'
    subst e1 e2
    exact (hu.keep hk hX).mono hk.size
  · rw [List.getElem?_eq_none (by simp; omega)] at ht'
    cases ht'
theorem KeptM.pop2 {w : World} {base : Nat} {a : TA} {g cap : Nat} {us : List Value} {t1 t2 : Tr} {r : List Tr} (h : KeptM w base a (.slice (some ⟨g, 0, none⟩) (r.length + 1 + 1) cap) us (t1 :: t2 :: r)) : KeptM w base a (.slice (some ⟨g, 0, none⟩) r.length cap) (us.take r.length) r := by
  refine ⟨by simpa using own_shrink (m := r.length) h.own (by omega), fun i u t hu ht => ?_⟩
  have hi : i < r.length := by have := lt_of_get ht; simpa using this
  refine h.row i u t ?_ ?_
  · rw [List.getElem?_take] at hu
    simpa [hi] using hu
  · simp only [List.reverse_cons, List.append_assoc]
    rw [List.getElem?_append_left (by simpa using hi)]
    exact ht
theorem KeptM.top {w : World} {base : Nat} {a : TA} {kk : Value} {us : List Value} {t1 t2 : Tr} {r : List Tr} (h : KeptM w base a kk us (t1 :: t2 :: r)) :
    ∃ u1 u2, us[r.length + 1]? = some u1 ∧ us[r.length]? = some u2 ∧ Marks w w.heap.size a.states.toNat u1 (a.marks t1) ∧ Marks w w.heap.size a.states.toNat u2 (a.marks t2) := by
  have hl := h.len
  obtain ⟨u1, hu1⟩ := get_lt (l := us) (i := r.length + 1) (by simp at hl; omega)
  obtain ⟨u2, hu2⟩ := get_lt (l := us) (i := r.length) (by simp at hl; omega)
  refine ⟨u1, u2, hu1, hu2, h.row _ _ _ hu1 ?_, h.row _ _ _ hu2 ?_⟩
  · simp
  · simp

end Go.Proofs.Ytnimlcbgeiajiaa

namespace Go.Proofs.Ytnimlcbgeiajiaa
open Go.RowKit

set_option maxHeartbeats 8000000 in
set_option maxRecDepth 100000 in
theorem refaccepts_any {v : Value} {a : TA} {w : World} {B1 B2 c1' c2' : Nat} {D1 D2 : Option Addr} {sh lb : List Int} (h : IsTA w w.heap.size v a) (hs : Sl w B1 1 encI D1 sh) (hl : Sl w B2 1 encI D2 lb) (hB1 : B1 ≤ w.heap.size) (hB2 : B2 ≤ w.heap.size)
    (hv : a.valid = true) (hvt : validT a.letters sh lb = true) :
    Calls Try.prog 56 #[v, .slice D1 sh.length c1', .slice D2 lb.length c2'] w (Ret fun r w' => r = .bool (a.lang (treeOf sh lb)) ∧ Below w.heap.size w w') := by
  obtain ⟨A1, c1, A2, c2, A3, c3, rfl, h1, h2, h3⟩ := h
  obtain ⟨w1, hw1, hb1, hB, hk1⟩ := box_blk w #[.int .i64 a.letters, .int .i64 a.states, .slice A1 a.accept.length c1, .slice A2 a.leaves.length c2, .slice A3 a.branches.length c3] 26
  have hsz := hb1.size
  have hT : IsTA w1 w1.heap.size (.agg #[.int .i64 a.letters, .int .i64 a.states, .slice A1 a.accept.length c1, .slice A2 a.leaves.length c2, .slice A3 a.branches.length c3]) a :=
    ⟨A1, c1, A2, c2, A3, c3, rfl, (h1.below hb1).mono hsz, (h2.below hb1).mono hsz, (h3.below hb1).mono hsz⟩
  have hHT := hide hT
  have hn1 := h1.1
  have hns := hs.1
  have hnl := hl.1
  clear hT
  have hV := hide hv
  clear hv
  obtain ⟨hst, hok, hlen, hn1', hn2'⟩ := validT_tree hvt
  have hgo : vtGo a.letters 1 sh lb = true := by
    simp only [validT, Bool.and_eq_true] at hvt
    exact hvt.2
  have hST := hide hst
  have hGO := hide hgo
  have hLEN := hide hlen
  clear hvt hst hgo hlen
  obtain ⟨hL1, hL8, hS0, hS64, hacc, -, -, -⟩ := TA.valid_parts hV.out
  have hACC := hide hacc
  clear hacc
  go_enter Try.func56, Try.ntmps56
  go_wp2_with fail
  go_loopw [7, 8] (fun kk ii wr => ∃ (i : Nat) (s : List Tr) (us : List Value), ii = .int .i64 ((i : Int) - 1) ∧ i ≤ sh.length ∧ Hid (stk (sh.drop i) (lb.drop i) = some s) ∧ Hid (KeptM wr w1.heap.size a kk us s) ∧ Hid (i + s.length ≤ sh.length + 1) ∧ Below w1.heap.size w1 wr) (fun _ ii _ => (intOf ii + 1).toNat)
  case atStart => exact ⟨sh.length, [], [], rfl, Nat.le_refl _, stk_nil_at (Nat.le_refl _), ⟨own_nil, fun i u t h => by simp at h⟩, Nat.le_succ _, Below.refl _ _⟩
  case round =>
    obtain ⟨i, s, us, rfl, hi, hs3, hown, hsl, hbr⟩ := hrel
    have hBr := hB.kept (Kept.of_below hbr (fun _ => False)) id
    have hcbr := hBr.cell
    have hszr := hbr.size
    obtain ⟨A, c, rfl⟩ := slice_of_own hown.out.own
    have hszd : wr.drew.heap.size = wr.heap.size := rfl
    have hownd := hide (hown.out.keep (Kept.refl wr (fun _ => False)).drew)
    by_cases hlt : 0 < i
    · obtain ⟨k, rfl⟩ : ∃ k, i = k + 1 := ⟨i - 1, by omega⟩
      rw [show (((k + 1 : Nat) : Int) - 1) = (k : Int) from by omega]
      obtain ⟨cd, l, s', hc, hl', hl0, hs', hcase⟩ := stk_at sh lb 1 (by omega) hGO.out k (by omega)
      have hss : s' = s := by
        have := hs3.out
        rw [hs'] at this
        exact Option.some.inj this
      subst hss
      obtain ⟨x, rfl⟩ := Int.eq_ofNat_of_zero_le hl0
      simp only [Int.toNat_natCast] at hcase
      obtain ⟨b1, o1, c', rfl, hb1', hc', hcc⟩ := hs.at (k := k) (by omega)
      obtain ⟨b2, o2, l', rfl, hb2', hl'', hlc⟩ := hl.at (k := k) (by rw [hLEN.out]; omega)
      rw [hc] at hc'
      rw [hl'] at hl''
      injection hc' with hc'
      injection hl'' with hl''
      subst hc' hl''
      have hc0 := (hbr.cell (by show b1 < _; omega)).trans ((hb1.cell (by show b1 < _; omega)).trans (hcc 0 (by omega)))
      have hl0' := (hbr.cell (by show b2 < _; omega)).trans ((hb1.cell (by show b2 < _; omega)).trans (hlc 0 (by omega)))
      simp only [Nat.mul_one, Nat.add_zero, encI] at hc0 hl0'
      have hTr : IsTA wr.drew wr.drew.heap.size (.agg #[.int .i64 a.letters, .int .i64 a.states, .slice A1 a.accept.length c1, .slice A2 a.leaves.length c2, .slice A3 a.branches.length c3]) a := hHT.out.keep (fun _ hp => hbr.drew.cell hp) hszr
      have hTR := hide hTr
      have hkl := hLEN.out
      have hKL := hide hkl
      have hklb : k < lb.length := by omega
      clear hc hl' hs' hcc hlc hl0 hTr hs3 hkl
      have hcount := hsl.out
      rcases hcase with ⟨rfl, hnext⟩ | ⟨rfl, t1, t2, r, rfl, hnext⟩
      · have hNX := hide hnext
        clear hnext
        go_wp2_with fail
        refine Reg.region_plain [0, 0, 0, 0, 12, 28, 62, 126, 255, 511] (by kernel_rfl) (by repeat (first | exact Reg.NoQ.body (fun _ _ h => h) (fun _ h => h) | refine Reg.NoQ.then ?_ | refine Reg.NoQ.inBlock ?_)) ?_
        go_wp2_with (first | (go_at_call 81; refine Calls.ret (refLeaf_any _ a _ x hTR.out hV.out) ?_; rintro v w3 ⟨hb3, hM⟩; have hM3 := hide hM; have hb33 := hide hb3; have hsz3 := hb3.size; have hbase3 : w1.heap.size ≤ w3.heap.size := by omega
                              have hK3 := hide (hownd.out.keep (Kept.of_below hb3 (fun _ => False))); obtain ⟨gv, -, rfl, -, -⟩ := hM; clear hb3) | (at_builtin; refine wpList_app_new row111 rfl _ _ rfl w1.heap.size (.slice A s'.length c) s'.length _ rfl hK3.out.own [.slice (some ⟨gv, 0, none⟩) a.states.toNat a.states.toNat] 1 rfl rfl (by simp [Value.oneCell']) (by omega) hbase3 ?_; intro g cap' w4 hown4 hk4 hmv4 hg4))
        refine ⟨⟨k, .leaf x :: s', us ++ [.slice (some ⟨gv, 0, none⟩) a.states.toNat a.states.toNat], by go_num, by omega, hNX.out, ?_, by show _ ≤ _; simp; omega, ?_⟩, by simp [intOf]⟩
        · exact hK3.out.push hM3.out hk4 hown4
        · refine (hbr.drew.trans (hb33.out.mono hszr)).trans (hk4.below hbase3 (fun b hb e => ?_))
          have := own_base hK3.out.own e
          omega
      · have hNX := hide hnext
        clear hnext
        simp only [List.length_cons] at *
        obtain ⟨u1, u2, hu1, hu2, hM1, hM2⟩ := hownd.out.top
        obtain ⟨g, cap, hv1, hcl1⟩ := own_get hown.out.own hu1
        obtain ⟨g', cap', hv2, hcl2⟩ := own_get hown.out.own hu2
        injection hv1 with hv1 hv1l hv1c
        injection hv2 with hv2 hv2l hv2c
        subst hv1 hv1c hv2c
        injection hv2 with hv2
        injection hv2 with hv2
        subst hv2
        clear hv1l hv2l
        have hcap := own_cap hown.out.own
        have hMM1 := hide hM1
        have hMM2 := hide hM2
        obtain ⟨gu1, -, rfl, -, -⟩ := hM1
        obtain ⟨gu2, -, rfl, -, -⟩ := hM2
        clear hu1 hu2
        go_wp2_with fail
        refine Reg.region_ints' [0, 0, 0, 6, 14, 0, 0, 64, 224, 480, 0, 0, 2048, 7168, 15360, 32767, 65535] (by kernel_rfl) (by repeat (first | exact Reg.NoQ.body (fun _ _ h => h) (fun _ h => h) | refine Reg.NoQ.then ?_ | refine Reg.NoQ.inBlock ?_)) ?_
        intro Qf hQf
        go_wp2_with (go_at_call 82; refine Calls.ret (refBranch_any _ _ _ a _ _ _ x _ _ hTR.out hV.out hMM1.out hMM2.out) ?_; rintro v w3 ⟨hb3, hM⟩; have hM3 := hide hM; have hb33 := hide hb3; have hsz3 := hb3.size; have hbase3 : w1.heap.size ≤ w3.heap.size := by omega
                     have hK3 := hide (hownd.out.keep (Kept.of_below hb3 (fun _ => False))); obtain ⟨gv, -, rfl, -, -⟩ := hM; clear hb3)
        refine ⟨rfl, ?_⟩
        have hK5 := hide hK3.out.pop2
        go_wp2_with (at_builtin; refine wpList_app_new row111 rfl _ _ rfl w1.heap.size (.slice (some ⟨g, 0, none⟩) r.length c) r.length _ rfl hK5.out.own [.slice (some ⟨gv, 0, none⟩) a.states.toNat a.states.toNat] 1 rfl rfl (by simp [Value.oneCell']) (by omega) hbase3 ?_; intro g2 cap' w4 hown4 hk4 hmv4 hg4)
        refine ⟨⟨k, .node x t1 t2 :: r, us.take r.length ++ [.slice (some ⟨gv, 0, none⟩) a.states.toNat a.states.toNat], by go_num, by omega, hNX.out, ?_, by show _ ≤ _; simp; omega, ?_⟩, by simp [intOf]⟩
        · exact hK5.out.push hM3.out hk4 hown4
        · refine (hbr.drew.trans (hb33.out.mono hszr)).trans (hk4.below hbase3 (fun b hb e => ?_))
          have := own_base hK5.out.own e
          omega
    · have hi0 : i = 0 := by omega
      subst hi0
      rw [show (((0 : Nat) : Int) - 1) = -1 from rfl]
      have hs4 : s = [treeOf sh lb] := by
        have := hs3.out
        rw [List.drop_zero, List.drop_zero, hST.out] at this
        exact (Option.some.inj this).symm
      subst hs4
      obtain ⟨u, hu⟩ := get_lt (l := us) (i := 0) (by rw [hown.out.len]; simp)
      have hMd := hide (hownd.out.row 0 u (treeOf sh lb) hu (by simp))
      obtain ⟨g, cap, hv1, hcl⟩ := own_get hown.out.own hu
      injection hv1 with hv1 _ hv1c
      subst hv1 hv1c
      obtain ⟨gu, -, rfl, -, -⟩ := hMd.out
      have hbW := hide (hb1.trans (hbr.drew.mono hsz))
      have hSa := hide ((h1.below hbW.out).mono (B' := wr.drew.heap.size) (by omega))
      have hS' : (a.states.toNat : Int) = a.states := by omega
      have hACC' := hACC.out
      rw [← hS'] at hACC'
      have hAC := hide hACC'
      clear hs3 hown hsl hownd hu hACC'
      go_wp2_with fail
      refine Reg.region_plain [0, 1, 3, 0, 8, 31, 63] (by kernel_rfl) (by repeat (first | exact Reg.NoQ.body (fun _ _ h => h) (fun _ h => h) | refine Reg.NoQ.then ?_ | refine Reg.NoQ.inBlock ?_)) ?_
      go_wp2_with (go_at_call 83; refine (refMeets_any hMd.out hSa.out hAC.out).mono ?_; rintro e w3 ⟨rfl, rfl⟩; rw [TA.lang_marks hV.out])
      go_ret
      exact ⟨rfl, hbW.out⟩
end Go.Proofs.Ytnimlcbgeiajiaa

namespace Go.Proofs.Ytnimlcbgeiajiaa
open Go.RowKit

set_option maxHeartbeats 8000000 in
set_option maxRecDepth 100000 in
theorem refAccepts_any {v : Value} {a : TA} {w : World} {B1 B2 c1' c2' : Nat} {D1 D2 : Option Addr} {sh lb : List Int} (h : IsTA w w.heap.size v a) (hs : Sl w B1 1 encI D1 sh) (hl : Sl w B2 1 encI D2 lb) (hB1 : B1 ≤ w.heap.size) (hB2 : B2 ≤ w.heap.size) :
    Calls Try.prog 29 #[v, .slice D1 sh.length c1', .slice D2 lb.length c2'] w (Ret fun r w' => r = accT a sh lb ∧ Below w.heap.size w w') := by
  obtain ⟨A1, c1, A2, c2, A3, c3, rfl, h1, h2, h3⟩ := h
  obtain ⟨w1, hw1, hb1, hB, hk1⟩ := box_blk w #[.int .i64 a.letters, .int .i64 a.states, .slice A1 a.accept.length c1, .slice A2 a.leaves.length c2, .slice A3 a.branches.length c3] 26
  have hsz := hb1.size
  have hT : IsTA w1 w1.heap.size (.agg #[.int .i64 a.letters, .int .i64 a.states, .slice A1 a.accept.length c1, .slice A2 a.leaves.length c2, .slice A3 a.branches.length c3]) a :=
    ⟨A1, c1, A2, c2, A3, c3, rfl, (h1.below hb1).mono hsz, (h2.below hb1).mono hsz, (h3.below hb1).mono hsz⟩
  have hHT := hide hT
  have hcb := hB.cell
  clear hT
  cases hv : a.valid
  · have hV := hide hv
    clear hv
    have he : Hid (accT a sh lb = .tuple #[.bool false, .int .i64 1]) := by show _ = _; simp [accT, hV.out]
    go_enter Try.func29, Try.ntmps29
    go_wp2_with (go_at_call 19; refine (refValidate_any _ _ _ hHT.out).mono ?_; rintro e w2 ⟨rfl, hb⟩; rw [hV.out]; simp only [errno]; have hb2 := hide hb; clear hb)
    go_ret2
    exact ⟨he.out.symm, hb1.trans (hb2.out.mono hsz)⟩
  · have hV := hide hv
    clear hv
    obtain ⟨hL1, hL8, -, -, -, -, -, -⟩ := TA.valid_parts hV.out
    cases hvt : validT a.letters sh lb
    · have hVT := hide hvt
      clear hvt
      have he : Hid (accT a sh lb = .tuple #[.bool false, .int .i64 1]) := by show _ = _; simp [accT, hVT.out]
      go_enter Try.func29, Try.ntmps29
      go_wp2_with (first | (go_at_call 19; refine (refValidate_any _ _ _ hHT.out).mono ?_; rintro e w2 ⟨rfl, hb⟩; rw [hV.out]; simp only [errno]; have hb2 := hide hb; have hcb2 := (hB.kept (Kept.of_below hb (fun _ => False)) id).cell; have hs2 := hide ((hs.mono hB1).below (hb1.trans (hb.mono hsz))); have hl2 := hide ((hl.mono hB2).below (hb1.trans (hb.mono hsz))); clear hb) | (go_at_call 55; refine (refValidTree_any hs2.out hl2.out ⟨hL1, hL8⟩).mono ?_; rintro e w3 ⟨rfl, rfl⟩; rw [hVT.out]))
      go_ret2
      exact ⟨he.out.symm, hb1.trans (hb2.out.mono hsz)⟩
    · have hVT := hide hvt
      clear hvt
      have he : Hid (accT a sh lb = .tuple #[.bool (a.lang (treeOf sh lb)), .int .i64 0]) := by show _ = _; simp [accT, hV.out, hVT.out]
      go_enter Try.func29, Try.ntmps29
      go_wp2_with (first | (go_at_call 19; refine (refValidate_any _ _ _ hHT.out).mono ?_; rintro e w2 ⟨rfl, hb⟩; rw [hV.out]; simp only [errno]; have hb2 := hide hb; have hsz2 := hb.size; have hT2 := hide (hHT.out.keep (fun _ hp => hb.cell hp) hsz2); have hcb2 := (hB.kept (Kept.of_below hb (fun _ => False)) id).cell; have hs2 := hide ((hs.mono hB1).below (hb1.trans (hb.mono hsz))); have hl2 := hide ((hl.mono hB2).below (hb1.trans (hb.mono hsz))); clear hb) | (go_at_call 55; refine (refValidTree_any hs2.out hl2.out ⟨hL1, hL8⟩).mono ?_; rintro e w3 ⟨rfl, rfl⟩; rw [hVT.out])
                         | (go_at_call 56; refine Calls.ret (refaccepts_any hT2.out hs2.out hl2.out (by omega) (by omega) hV.out hVT.out) ?_; rintro v w4 ⟨rfl, hb4⟩; have hb44 := hide hb4; clear hb4))
      go_ret2
      exact ⟨he.out.symm, (hb1.trans (hb2.out.mono hsz)).trans (hb44.out.mono (by omega))⟩

set_option maxHeartbeats 4000000 in
theorem long_any {w : World} {B1 B2 c1 c2 : Nat} {A1 A2 : Option Addr} {sh lb : List Int} (h1 : Sl w B1 1 encI A1 sh) (h2 : Sl w B2 1 encI A2 lb) :
    Calls Try.prog 27 #[.agg #[.slice A1 sh.length c1, .slice A2 lb.length c2]] w (Ret fun r w' => r = .bool (decide (60 < sh.length) || decide (60 < lb.length)) ∧ Below w.heap.size w w') := by
  have hn1 := h1.1
  have hn2 := h2.1
  clear h1 h2
  by_cases hs : 60 < sh.length
  · go_enter Try.func27, Try.ntmps27
    go_wp2_with fail
    go_ret
    exact ⟨by simp, (Below.refl _ _).alloc (Nat.le_refl _) _⟩
  · by_cases hl : 60 < lb.length
    · go_enter Try.func27, Try.ntmps27
      go_wp2_with fail
      go_ret
      exact ⟨by simp [hl]; omega, (Below.refl _ _).alloc (Nat.le_refl _) _⟩
    · go_enter Try.func27, Try.ntmps27
      go_wp2_with fail
      go_ret
      exact ⟨by simp [hl, hs]; omega, (Below.refl _ _).alloc (Nat.le_refl _) _⟩

set_option maxHeartbeats 8000000 in
set_option maxRecDepth 100000 in
theorem lawAccepts {v : Value} {a : TA} {w : World} {c1' c2' : Nat} {D1 D2 : Option Addr} {sh lb : List Int} (h : IsTA w w.heap.size v a) (hs : Sl w w.heap.size 1 encI D1 sh) (hl : Sl w w.heap.size 1 encI D2 lb) :
    Calls Try.prog 6 #[v, .agg #[.slice D1 sh.length c1', .slice D2 lb.length c2']] w (Ret fun v w' => v = .bool true ∧ Below w.heap.size w w') := by
  obtain ⟨A1, c1, A2, c2, A3, c3, rfl, h1, h2, h3⟩ := h
  obtain ⟨w1, hw1, hb1, hB1, hk1⟩ := box_blk w #[.int .i64 a.letters, .int .i64 a.states, .slice A1 a.accept.length c1, .slice A2 a.leaves.length c2, .slice A3 a.branches.length c3] 26
  obtain ⟨w2, hw2, hb2, hB2, hk2⟩ := box_blk w1 #[.slice D1 sh.length c1', .slice D2 lb.length c2'] 40
  have hsz1 := hb1.size
  have hsz2 := hb2.size
  have hb02 := hb1.trans (hb2.mono hsz1)
  have hB12 := hB1.kept hk2 id
  have hcb1 := hB12.cell
  have hcb2 := hB2.cell
  have hT : IsTA w2 w2.heap.size (.agg #[.int .i64 a.letters, .int .i64 a.states, .slice A1 a.accept.length c1, .slice A2 a.leaves.length c2, .slice A3 a.branches.length c3]) a :=
    IsTA.keep ⟨A1, c1, A2, c2, A3, c3, rfl, h1, h2, h3⟩ (fun _ hp => hb02.cell hp) (by omega)
  have hTT := hide hT
  have hs2 := hide ((hs.below hb02).mono (B' := w2.heap.size) (by omega))
  have hl2 := hide ((hl.below hb02).mono (B' := w2.heap.size) (by omega))
  have hns := hs.1
  have hnl := hl.1
  clear hT h1 h2 h3
  go_enter Try.func6, Try.ntmps6
  go_wp2_with fail
  refine (Big_any _ a w2 hTT.out).mono ?_
  rintro e w3 ⟨rfl, hb3⟩
  have hb03 : Below w.heap.size w w3 := hb02.trans (hb3.mono (by omega))
  have hcb3 := (hB12.kept (Kept.of_below hb3 (fun _ => False)) id).cell
  have hB23 := hB2.kept (Kept.of_below hb3 (fun _ => False)) id
  have hdb3 := hB23.cell
  have hsz3 := hb3.size
  cases hbig : a.big with
  | true =>
    go_wp2_with fail
    refine Calls.ret (known_any w3) ?_
    rintro v w4 ⟨rfl, hb4⟩
    have hb04 := hide (hb03.trans (hb4.mono (by omega)))
    clear hb4
    go_wp2_with fail
    go_ret
    exact ⟨rfl, hb04.out⟩
  | false =>
    have hs3 := hide ((hs2.out.below hb3).mono hsz3)
    have hl3 := hide ((hl2.out.below hb3).mono hsz3)
    have hT3 := hide (hTT.out.keep (fun _ hp => hb3.cell hp) hsz3)
    go_wp2_with fail
    refine Calls.ret (long_any hs3.out hl3.out) ?_
    rintro v w4 ⟨rfl, hb4⟩
    have hb04 : Below w.heap.size w w4 := hb03.trans (hb4.mono (by omega))
    have hsz4 := hb4.size
    have hcb4 := ((hB12.kept (Kept.of_below hb3 (fun _ => False)) id).kept (Kept.of_below hb4 (fun _ => False)) id).cell
    have hB24 := hB23.kept (Kept.of_below hb4 (fun _ => False)) id
    have hdb4 := hB24.cell
    cases hlong : (decide (60 < sh.length) || decide (60 < lb.length)) with
    | true =>
      go_wp2_with fail
      refine Calls.ret (known_any w4) ?_
      rintro v w5 ⟨rfl, hb5⟩
      have hb05 := hide (hb04.trans (hb5.mono (by omega)))
      clear hb5
      go_wp2_with fail
      go_ret
      exact ⟨rfl, hb05.out⟩
    | false =>
      have hs4 := hide ((hs3.out.below hb4).mono hsz4)
      have hl4 := hide ((hl3.out.below hb4).mono hsz4)
      have hT4 := hide (hT3.out.keep (fun _ hp => hb4.cell hp) hsz4)
      clear hlong
      go_wp2_with fail
      refine Calls.ret (accepts_any hT4.out hs4.out hl4.out (Nat.le_refl _) (Nat.le_refl _)) ?_
      rintro v w5 ⟨rfl, hb5⟩
      have hb05 : Below w.heap.size w w5 := hb04.trans (hb5.mono (by omega))
      have hsz5 := hb5.size
      have hcb5 := (((hB12.kept (Kept.of_below hb3 (fun _ => False)) id).kept (Kept.of_below hb4 (fun _ => False)) id).kept (Kept.of_below hb5 (fun _ => False)) id).cell
      have hB25 := hB24.kept (Kept.of_below hb5 (fun _ => False)) id
      have hdb5 := hB25.cell
      have hs5 := hide ((hs4.out.below hb5).mono hsz5)
      have hl5 := hide ((hl4.out.below hb5).mono hsz5)
      have hT5 := hide (hT4.out.keep (fun _ hp => hb5.cell hp) hsz5)
      obtain ⟨x, y, hxy⟩ : ∃ x y, accT a sh lb = .tuple #[.bool x, .int .i64 y] := by
        unfold accT
        split
        · exact ⟨_, _, rfl⟩
        · exact ⟨_, _, rfl⟩
      rw [hxy]
      have HXY := hide hxy
      clear hxy
      go_wp2_with fail
      refine Calls.ret (refAccepts_any hT5.out hs5.out hl5.out (Nat.le_refl _) (Nat.le_refl _)) ?_
      rintro v w6 ⟨rfl, hb6⟩
      have hb06 : Below w.heap.size w w6 := hb05.trans (hb6.mono (by omega))
      have hsz6 := hb6.size
      rw [HXY.out]
      have heq1 : (x == x) = true := by simp
      have heq2 : (y == y) = true := by simp
      go_wp2_with fail
      refine Calls.ret (known_any w6) ?_
      rintro v w7 ⟨rfl, hb7⟩
      have hb07 := hide (hb06.trans (hb7.mono (by omega)))
      clear hb7
      go_wp2_with fail
      go_ret
      exact ⟨rfl, hb07.out⟩
end Go.Proofs.Ytnimlcbgeiajiaa

namespace Go.Proofs.Ytnimlcbgeiajiaa
open Go.RowKit

set_option maxHeartbeats 2000000 in
set_option maxRecDepth 100000 in
theorem compareInts_eq {w : World} {B1 B2 c1 c2 : Nat} {A1 A2 : Option Addr} {xs : List Int} (h1 : Sl w B1 1 encI A1 xs) (h2 : Sl w B2 1 encI A2 xs) (hB1 : B1 ≤ w.heap.size) (hB2 : B2 ≤ w.heap.size) :
    Calls Try.prog 77 #[.slice A1 xs.length c1, .slice A2 xs.length c2] w (Ret fun r w' => r = .int .i64 0 ∧ Below w.heap.size w w') := by
  have hn := h1.1
  go_enter Try.func77, Try.ntmps77
  go_wp2_with fail
  go_loopw [5] (fun ii wr => ∃ (i : Nat), ii = .int .i64 (i : Int) ∧ i ≤ xs.length ∧ Below w.heap.size w wr) (fun ii _ => xs.length - (intOf ii).toNat)
  case atStart => exact ⟨0, rfl, Nat.zero_le _, Below.refl _ _⟩
  case round =>
    obtain ⟨i, rfl, hi, hB⟩ := hrel
    by_cases hlt : i < xs.length
    · obtain ⟨b1, o1, x, rfl, hb1, hx, hc1⟩ := h1.at hlt
      obtain ⟨b2, o2, y, rfl, hb2, hy, hc2⟩ := h2.at hlt
      have hxy : y = x := by rw [hx] at hy; exact (Option.some.inj hy).symm
      subst hxy
      have e1 := (hB.cell (by show b1 < _; omega)).trans (hc1 0 (by omega))
      have e2 := (hB.cell (by show b2 < _; omega)).trans (hc2 0 (by omega))
      simp only [Nat.mul_one, Nat.add_zero, encI] at e1 e2
      have hst := hide ((hB.trans ((drew_below wr).mono hB.size)).trans ((drew_below wr.drew).mono hB.size))
      clear hx hy hc1 hc2
      go_wp2_with fail
      refine Reg.region_plain [0, 0, 3, 7, 0, 0, 48, 112, 255] (by kernel_rfl) (by repeat (first | exact Reg.NoQ.body (fun _ _ h => h) (fun _ h => h) | exact Reg.NoQ.body (fun _ _ h => Ending.noConfusion h.1) (fun _ h => Ending.noConfusion h.1) | refine Reg.NoQ.then ?_ | refine Reg.NoQ.inBlock ?_)) ?_
      go_wp2_with fail
      refine Reg.region_plain [0, 0, 3, 7, 0, 0, 48, 112, 255] (by kernel_rfl) (by repeat (first | exact Reg.NoQ.body (fun _ _ h => h) (fun _ h => h) | exact Reg.NoQ.body (fun _ _ h => Ending.noConfusion h.1) (fun _ h => Ending.noConfusion h.1) | refine Reg.NoQ.then ?_ | refine Reg.NoQ.inBlock ?_)) ?_
      go_wp2_with fail
      exact ⟨⟨i + 1, by simp, by omega, hst.out⟩, by simp [intOf]; omega⟩
    · go_wp2_with fail
      go_ret
      exact ⟨rfl, hB⟩

set_option maxHeartbeats 1000000 in
theorem sameInts_eq {w : World} {B1 B2 c1 c2 : Nat} {A1 A2 : Option Addr} {xs : List Int} (h1 : Sl w B1 1 encI A1 xs) (h2 : Sl w B2 1 encI A2 xs) (hB1 : B1 ≤ w.heap.size) (hB2 : B2 ≤ w.heap.size) :
    Calls Try.prog 50 #[.slice A1 xs.length c1, .slice A2 xs.length c2] w (Ret fun r w' => r = .bool true ∧ Below w.heap.size w w') := by
  go_enter Try.func50, Try.ntmps50
  go_wp2_with (go_at_call 77; refine Calls.ret (compareInts_eq h1 h2 hB1 hB2) ?_; rintro v w2 ⟨rfl, hb⟩; have hb2 := hide hb; clear hb)
  go_ret
  exact ⟨rfl, hb2.out⟩

set_option maxHeartbeats 4000000 in
set_option maxRecDepth 100000 in
theorem sameAutomaton_eq {v1 v2 : Value} {a : TA} {w : World} (h : IsTA w w.heap.size v1 a) (h' : IsTA w w.heap.size v2 a) :
    Calls Try.prog 23 #[v1, v2] w (Ret fun r w' => r = .bool true ∧ Below w.heap.size w w') := by
  obtain ⟨A1, c1, A2, c2, A3, c3, rfl, h1, h2, h3⟩ := h
  obtain ⟨A4, c4, A5, c5, A6, c6, rfl, h4, h5, h6⟩ := h'
  obtain ⟨w1, hw1, hb1, hB1, hk1⟩ := box_blk w #[.int .i64 a.letters, .int .i64 a.states, .slice A1 a.accept.length c1, .slice A2 a.leaves.length c2, .slice A3 a.branches.length c3] 26
  obtain ⟨w2, hw2, hb2, hB2, hk2⟩ := box_blk w1 #[.int .i64 a.letters, .int .i64 a.states, .slice A4 a.accept.length c4, .slice A5 a.leaves.length c5, .slice A6 a.branches.length c6] 26
  have hsz1 := hb1.size
  have hsz2 := hb2.size
  have hb02 := hb1.trans (hb2.mono hsz1)
  have hB12 := hB1.kept hk2 id
  have hcb1 := hB12.cell
  have hcb2 := hB2.cell
  have hn1 := h1.1
  have hn2 := h2.1
  have hn3 := h3.1
  go_enter Try.func23, Try.ntmps23
  go_wp2_with fail
  go_loopw [5] (fun ii wr => ∃ (i : Nat), ii = .int .i64 (i : Int) ∧ i ≤ a.leaves.length ∧ Below w2.heap.size w2 wr) (fun ii _ => a.leaves.length - (intOf ii).toNat)
  case atStart => exact ⟨0, rfl, Nat.zero_le _, Below.refl _ _⟩
  case round =>
    obtain ⟨i, rfl, hi, hB⟩ := hrel
    have hcr1 := (hB12.kept (Kept.of_below hB (fun _ => False)) id).cell
    have hcr2 := (hB2.kept (Kept.of_below hB (fun _ => False)) id).cell
    by_cases hlt : i < a.leaves.length
    · obtain ⟨b1, o1, x, rfl, hb1', hx, hc1⟩ := h2.at hlt
      obtain ⟨b2, o2, y, rfl, hb2', hy, hc2⟩ := h5.at hlt
      have hxy : y = x := by rw [hx] at hy; exact (Option.some.inj hy).symm
      subst hxy
      have e1 := fun j hj => (hB.cell (by show b1 < _; omega)).trans ((hb02.cell (by exact hb1')).trans (hc1 j hj))
      have e2 := fun j hj => (hB.cell (by show b2 < _; omega)).trans ((hb02.cell (by exact hb2')).trans (hc2 j hj))
      have e10 := e1 0 (by omega)
      have e11 := e1 1 (by omega)
      have e20 := e2 0 (by omega)
      have e21 := e2 1 (by omega)
      simp only [Nat.add_zero, encL] at e10 e11 e20 e21
      have hst := hide (hB.trans ((drew_below wr).mono hB.size))
      clear hx hy hc1 hc2 e1 e2
      go_wp2_with fail
      refine Reg.region_plain [0, 1, 0, 7, 15, 0, 32, 0, 224, 480, 1023] (by kernel_rfl) (by repeat (first | exact Reg.NoQ.body (fun _ _ h => h) (fun _ h => h) | exact Reg.NoQ.body (fun _ _ h => Ending.noConfusion h.1) (fun _ h => Ending.noConfusion h.1) | refine Reg.NoQ.then ?_ | refine Reg.NoQ.inBlock ?_)) ?_
      go_wp2_with fail
      exact ⟨⟨i + 1, by simp, by omega, hst.out⟩, by simp [intOf]; omega⟩
    · go_wp2_with fail
      obtain ⟨wa, rfl⟩ : ∃ wa : World, wa = wr := ⟨_, rfl⟩
      have hBa := hide hB
      go_loopw [6] (fun ii wr => ∃ (i : Nat), ii = .int .i64 (i : Int) ∧ i ≤ a.branches.length ∧ Below w2.heap.size w2 wr) (fun ii _ => a.branches.length - (intOf ii).toNat)
      case atStart => exact ⟨0, rfl, Nat.zero_le _, hB⟩
      case round =>
        obtain ⟨i', rfl, hi', hB'⟩ := hrel
        have hcs1 := (hB12.kept (Kept.of_below hB' (fun _ => False)) id).cell
        have hcs2 := (hB2.kept (Kept.of_below hB' (fun _ => False)) id).cell
        by_cases hlt' : i' < a.branches.length
        · obtain ⟨b1, o1, x, rfl, hb1', hx, hc1⟩ := h3.at hlt'
          obtain ⟨b2, o2, y, rfl, hb2', hy, hc2⟩ := h6.at hlt'
          have hxy : y = x := by rw [hx] at hy; exact (Option.some.inj hy).symm
          subst hxy
          have e1 := fun j hj => (hB'.cell (by show b1 < _; omega)).trans ((hb02.cell (by exact hb1')).trans (hc1 j hj))
          have e2 := fun j hj => (hB'.cell (by show b2 < _; omega)).trans ((hb02.cell (by exact hb2')).trans (hc2 j hj))
          have e10 := e1 0 (by omega)
          have e11 := e1 1 (by omega)
          have e12 := e1 2 (by omega)
          have e13 := e1 3 (by omega)
          have e20 := e2 0 (by omega)
          have e21 := e2 1 (by omega)
          have e22 := e2 2 (by omega)
          have e23 := e2 3 (by omega)
          simp only [Nat.add_zero, encBr] at e10 e11 e12 e13 e20 e21 e22 e23
          have hst := hide (hB'.trans ((drew_below wr).mono hB'.size))
          clear hx hy hc1 hc2 e1 e2 hcr1 hcr2
          go_wp2_with fail
          refine Reg.region_plain [0, 1, 0, 7, 15, 0, 32, 0, 224, 480, 1023] (by kernel_rfl) (by repeat (first | exact Reg.NoQ.body (fun _ _ h => h) (fun _ h => h) | exact Reg.NoQ.body (fun _ _ h => Ending.noConfusion h.1) (fun _ h => Ending.noConfusion h.1) | refine Reg.NoQ.then ?_ | refine Reg.NoQ.inBlock ?_)) ?_
          go_wp2_with fail
          exact ⟨⟨i' + 1, by simp, by omega, hst.out⟩, by simp [intOf]; omega⟩
        · have hsw := hB'.size
          have hS1 := hide (((h1.below hb02).mono (show w.heap.size ≤ w2.heap.size by omega)).below hB')
          have hS4 := hide (((h4.below hb02).mono (show w.heap.size ≤ w2.heap.size by omega)).below hB')
          clear hcr1 hcr2
          go_wp2_with (go_at_call 50; refine Calls.ret (sameInts_eq hS1.out hS4.out (by omega) (by omega)) ?_; rintro v w9 ⟨rfl, hb⟩; have hb9 := hide hb; clear hb)
          go_ret
          exact ⟨rfl, (hb02.trans (hB'.mono (by omega))).trans (hb9.out.mono (by omega))⟩

def TA.small (a : TA) : Bool := !a.big && (decide (a.states ≤ 5) && decide (a.letters ≤ 3) || !a.valid)
set_option maxHeartbeats 4000000 in
set_option maxRecDepth 100000 in
theorem small_any {v : Value} {a : TA} {w : World} (h : IsTA w w.heap.size v a) :
    Calls Try.prog 24 #[v] w (Ret fun r w' => r = .bool a.small ∧ Below w.heap.size w w') := by
  obtain ⟨A1, c1, A2, c2, A3, c3, rfl, h1, h2, h3⟩ := h
  obtain ⟨w1, hw1, hb1, hB1, hk1⟩ := box_blk w #[.int .i64 a.letters, .int .i64 a.states, .slice A1 a.accept.length c1, .slice A2 a.leaves.length c2, .slice A3 a.branches.length c3] 26
  have hsz := hb1.size
  have hT : IsTA w1 w1.heap.size (.agg #[.int .i64 a.letters, .int .i64 a.states, .slice A1 a.accept.length c1, .slice A2 a.leaves.length c2, .slice A3 a.branches.length c3]) a :=
    ⟨A1, c1, A2, c2, A3, c3, rfl, (h1.below hb1).mono hsz, (h2.below hb1).mono hsz, (h3.below hb1).mono hsz⟩
  have hHT := hide hT
  have hcb := hB1.cell
  clear hT h1 h2 h3
  cases hbig : a.big
  · have hBG := hide hbig
    clear hbig
    by_cases hs5 : a.states ≤ 5 ∧ a.letters ≤ 3
    · have hfin : Hid (a.small = true) := by show _ = _; simp [TA.small, hBG.out, hs5.1, hs5.2]
      obtain ⟨hs5, hs3⟩ := hs5
      go_enter Try.func24, Try.ntmps24
      go_wp2_with (go_at_call 16; refine (Big_any _ _ _ hHT.out).mono ?_; rintro e w2 ⟨rfl, hb⟩; rw [hBG.out]; have hb2 := hide hb; have hcb2 := (hB1.kept (Kept.of_below hb (fun _ => False)) id).cell; clear hb)
      go_ret
      exact ⟨by rw [hfin.out]; rfl, hb1.trans (hb2.out.mono hsz)⟩
    · have hfin : Hid (a.small = !a.valid) := by
        show _ = _
        have : (decide (a.states ≤ 5) && decide (a.letters ≤ 3)) = false := by simp; omega
        simp only [TA.small, hBG.out, this]
        rfl
      have hHS := hide hs5
      by_cases h5 : a.states ≤ 5
      · have h3 : ¬ a.letters ≤ 3 := fun h => hHS.out ⟨h5, h⟩
        clear hs5
        cases hv : a.valid
        all_goals
          have hV := hide hv
          clear hv
          go_enter Try.func24, Try.ntmps24
          go_wp2_with (first | (go_at_call 16; refine (Big_any _ _ _ hHT.out).mono ?_; rintro e w2 ⟨rfl, hb⟩; rw [hBG.out]; have hb2 := hide hb; have hsz2 := hb.size; have hT2 := hide (hHT.out.keep (fun _ hp => hb.cell hp) hsz2); have hcb2 := (hB1.kept (Kept.of_below hb (fun _ => False)) id).cell; clear hb) | (go_at_call 19; refine (refValidate_any _ _ _ hT2.out).mono ?_; rintro e w3 ⟨rfl, hb⟩; rw [hV.out]; simp only [errno]; have hb3 := hide hb; clear hb))
          go_ret
          exact ⟨by rw [hfin.out, hV.out]; first | rfl | (simp; done) | (simp; omega), (hb1.trans (hb2.out.mono hsz)).trans (hb3.out.mono (by omega))⟩
      · clear hs5
        cases hv : a.valid
        all_goals
          have hV := hide hv
          clear hv
          go_enter Try.func24, Try.ntmps24
          go_wp2_with (first | (go_at_call 16; refine (Big_any _ _ _ hHT.out).mono ?_; rintro e w2 ⟨rfl, hb⟩; rw [hBG.out]; have hb2 := hide hb; have hsz2 := hb.size; have hT2 := hide (hHT.out.keep (fun _ hp => hb.cell hp) hsz2); have hcb2 := (hB1.kept (Kept.of_below hb (fun _ => False)) id).cell; clear hb) | (go_at_call 19; refine (refValidate_any _ _ _ hT2.out).mono ?_; rintro e w3 ⟨rfl, hb⟩; rw [hV.out]; simp only [errno]; have hb3 := hide hb; clear hb))
          go_ret
          exact ⟨by rw [hfin.out, hV.out]; first | rfl | (simp; done) | (simp; omega), (hb1.trans (hb2.out.mono hsz)).trans (hb3.out.mono (by omega))⟩
  · have hBG := hide hbig
    clear hbig
    have hfin : Hid (a.small = false) := by show _ = _; simp [TA.small, hBG.out]
    go_enter Try.func24, Try.ntmps24
    go_wp2_with (go_at_call 16; refine (Big_any _ _ _ hHT.out).mono ?_; rintro e w2 ⟨rfl, hb⟩; rw [hBG.out]; have hb2 := hide hb; clear hb)
    go_ret
    exact ⟨by rw [hfin.out]; rfl, hb1.trans (hb2.out.mono hsz)⟩
end Go.Proofs.Ytnimlcbgeiajiaa

namespace Go.Proofs.Ytnimlcbgeiajiaa
open Go.RowKit

theorem plBr_le {L n : Nat} {t : List (List (List Nat))} (hL : L ≤ 8) (hn : n ≤ 64) : (plBr L n t).length ≤ 900000 := by
  rw [plBr_len]
  have h1 : n * n ≤ 64 * 64 := Nat.mul_le_mul hn hn
  have h2 : L * (n * n) ≤ 8 * (64 * 64) := Nat.mul_le_mul hL h1
  omega

set_option maxHeartbeats 8000000 in
set_option maxRecDepth 100000 in
theorem lawKeeps {v : Value} {a : TA} {w : World} {c1' c2' : Nat} {D1 D2 : Option Addr} {sh lb : List Int} (h : IsTA w w.heap.size v a) (hs : Sl w w.heap.size 1 encI D1 sh) (hl : Sl w w.heap.size 1 encI D2 lb) :
    Calls Try.prog 7 #[v, .agg #[.slice D1 sh.length c1', .slice D2 lb.length c2']] w (Ret fun v w' => v = .bool true ∧ Below w.heap.size w w') := by
  obtain ⟨A1, c1, A2, c2, A3, c3, rfl, h1, h2, h3⟩ := h
  obtain ⟨w1, hw1, hb1, hB1, hk1⟩ := box_blk w #[.int .i64 a.letters, .int .i64 a.states, .slice A1 a.accept.length c1, .slice A2 a.leaves.length c2, .slice A3 a.branches.length c3] 26
  obtain ⟨w2, hw2, hb2, hB2, hk2⟩ := box_blk w1 #[.slice D1 sh.length c1', .slice D2 lb.length c2'] 40
  have hsz1 := hb1.size
  have hsz2 := hb2.size
  have hb02 := hb1.trans (hb2.mono hsz1)
  have hB12 := hB1.kept hk2 id
  have hcb1 := hB12.cell
  have hcb2 := hB2.cell
  have hT : IsTA w2 w2.heap.size (.agg #[.int .i64 a.letters, .int .i64 a.states, .slice A1 a.accept.length c1, .slice A2 a.leaves.length c2, .slice A3 a.branches.length c3]) a :=
    IsTA.keep ⟨A1, c1, A2, c2, A3, c3, rfl, h1, h2, h3⟩ (fun _ hp => hb02.cell hp) (by omega)
  have hTT := hide hT
  have hs2 := hide ((hs.below hb02).mono (B' := w2.heap.size) (by omega))
  have hl2 := hide ((hl.below hb02).mono (B' := w2.heap.size) (by omega))
  have hns := hs.1
  have hnl := hl.1
  clear hT h1 h2 h3
  go_enter Try.func7, Try.ntmps7
  go_wp2_with fail
  refine Calls.ret (small_any hTT.out) ?_
  rintro v w3 ⟨rfl, hb3⟩
  have hb03 : Below w.heap.size w w3 := hb02.trans (hb3.mono (by omega))
  have hB13 := hB12.kept (Kept.of_below hb3 (fun _ => False)) id
  have hB23 := hB2.kept (Kept.of_below hb3 (fun _ => False)) id
  have hcb3 := hB13.cell
  have hdb3 := hB23.cell
  have hsz3 := hb3.size
  cases hsm : a.small with
  | false =>
    go_wp2_with fail
    refine Calls.ret (known_any w3) ?_
    rintro v w4 ⟨rfl, hb4⟩
    have hb04 := hide (hb03.trans (hb4.mono (by omega)))
    clear hb4
    go_wp2_with fail
    go_ret
    exact ⟨rfl, hb04.out⟩
  | true =>
    have hbr : a.branches.length ≤ 900000 := by
      have : a.big = false := by
        cases hb : a.big
        · rfl
        · simp [TA.small, hb] at hsm
      simp [TA.big] at this
      omega
    have hBR := hide hbr
    clear hbr hsm
    have hs3 := hide ((hs2.out.below hb3).mono hsz3)
    have hl3 := hide ((hl2.out.below hb3).mono hsz3)
    have hT3 := hide (hTT.out.keep (fun _ hp => hb3.cell hp) hsz3)
    go_wp2_with fail
    refine Calls.ret (long_any hs3.out hl3.out) ?_
    rintro v w4 ⟨rfl, hb4⟩
    have hb04 : Below w.heap.size w w4 := hb03.trans (hb4.mono (by omega))
    have hsz4 := hb4.size
    have hB14 := hB13.kept (Kept.of_below hb4 (fun _ => False)) id
    have hB24 := hB23.kept (Kept.of_below hb4 (fun _ => False)) id
    have hcb4 := hB14.cell
    have hdb4 := hB24.cell
    cases hlong : (decide (60 < sh.length) || decide (60 < lb.length)) with
    | true =>
      go_wp2_with fail
      refine Calls.ret (known_any w4) ?_
      rintro v w5 ⟨rfl, hb5⟩
      have hb05 := hide (hb04.trans (hb5.mono (by omega)))
      clear hb5
      go_wp2_with fail
      go_ret
      exact ⟨rfl, hb05.out⟩
    | false =>
      have hs4 := hide ((hs3.out.below hb4).mono hsz4)
      have hl4 := hide ((hl3.out.below hb4).mono hsz4)
      have hT4 := hide (hT3.out.keep (fun _ hp => hb4.cell hp) hsz4)
      clear hlong
      go_wp2_with fail
      refine Calls.ret (Minimal_any _ a w4 hT4.out hBR.out) ?_
      rintro v w5 ⟨hb5, hres⟩
      have hb05 : Below w.heap.size w w5 := hb04.trans (hb5.mono (by omega))
      have hsz5 := hb5.size
      have hB15 := hB14.kept (Kept.of_below hb5 (fun _ => False)) id
      have hB25 := hB24.kept (Kept.of_below hb5 (fun _ => False)) id
      have hcb5 := hB15.cell
      have hdb5 := hB25.cell
      rcases hres with ⟨hv, rfl⟩ | ⟨hv, -, rfl⟩ | ⟨hv, -, ac, lf, t, va, rfl, hok, hn, hcan, hown⟩
      · clear hv
        unfold zeroTA
        have hb06 := hb05.alloc (by omega) (.cells #[.int .i64 0, .int .i64 0, .slice none 0 0, .slice none 0 0, .slice none 0 0] 26)
        have hsz6 := hb06.size
        go_wp2_with fail
        refine Calls.ret (known_any _) ?_
        rintro v w7 ⟨rfl, hb7⟩
        have hb07 := hide (hb06.trans (hb7.mono hsz6))
        clear hb7
        go_wp2_with fail
        go_ret
        exact ⟨rfl, hb07.out⟩
      · clear hv
        unfold zeroTA
        have hb06 := hb05.alloc (by omega) (.cells #[.int .i64 0, .int .i64 0, .slice none 0 0, .slice none 0 0, .slice none 0 0] 26)
        have hsz6 := hb06.size
        go_wp2_with fail
        refine Calls.ret (known_any _) ?_
        rintro v w7 ⟨rfl, hb7⟩
        have hb07 := hide (hb06.trans (hb7.mono hsz6))
        clear hb7
        go_wp2_with fail
        go_ret
        exact ⟨rfl, hb07.out⟩
      · have hV := hide hv
        have hOK := hide hok
        have hCAN := hide hcan
        clear hv hok hcan
        obtain ⟨hL1, hL8, -, -, -, -, -, -⟩ := TA.valid_parts hV.out
        have hM5 := hide (own_ta hown)
        obtain ⟨A4, c4, A5, c5, A6, c6, rfl, -, -, -⟩ := own_ta hown
        clear hown
        obtain ⟨w6, hw6, hb6, hB6, hk6⟩ := box_blk w5 #[.int .i64 (plainA a.letters.toNat ac lf t).letters, .int .i64 (plainA a.letters.toNat ac lf t).states, .slice A4 (plainA a.letters.toNat ac lf t).accept.length c4, .slice A5 (plainA a.letters.toNat ac lf t).leaves.length c5, .slice A6 (plainA a.letters.toNat ac lf t).branches.length c6] 26
        have hpv := hide (plain_valid hOK.out (by omega) (by omega) hn)
        have hacc := hide (keep_acc hV.out hOK.out hn hCAN.out sh lb)
        have hbigM : (plainA a.letters.toNat ac lf t).branches.length ≤ 900000 := plBr_le (by omega) hn
        have hlet : (plainA a.letters.toNat ac lf t).letters.toNat = a.letters.toNat := Int.toNat_natCast _
        have hnlM := plain_small hOK.out hn
        have hsame : ∀ (ac' : List Bool) (lf' : List Nat) (t' : List (List (List Nat))), MOK a.letters.toNat ac' lf' t' → Canon a.letters.toNat ac'.length (mleaf lf') (mbr t') (macc ac') (plainA a.letters.toNat ac lf t).lang → plainA a.letters.toNat ac' lf' t' = plainA a.letters.toNat ac lf t :=
          fun ac' lf' t' h1 h2 => plain_same hOK.out h1 hCAN.out h2 fun tr htr => ((hCAN.out.lang tr htr).symm.trans (plain_lang hOK.out tr htr).symm)
        have hBM := hide hbigM
        have hLE := hide hlet
        have hNM := hide hnlM
        have hSA := hide hsame
        clear hbigM hlet hnlM hsame
        generalize plainA a.letters.toNat ac lf t = M at *
        have hb06 : Below w.heap.size w w6 := hb05.trans (hb6.mono (by omega))
        have hsz6 := hb6.size
        have hB16 := hB15.kept hk6 id
        have hB26 := hB25.kept hk6 id
        have hcb6 := hB16.cell
        have hdb6 := hB26.cell
        have hc6 := hB6.cell
        have hM6 := hide (hM5.out.keep (fun _ hp => hb6.cell hp) hsz6)
        go_wp2_with fail
        have hTa4 := hT4
        have hsh4 := hs4
        have hlb4 := hl4
        have hTa5 := hide (hTa4.out.keep (fun _ hp => hb5.cell hp) hsz5)
        have hsh5 := hide ((hsh4.out.below hb5).mono hsz5)
        have hlb5 := hide ((hlb4.out.below hb5).mono hsz5)
        have hTa6 := hide (hTa5.out.keep (fun _ hp => hb6.cell hp) hsz6)
        have hsh6 := hide ((hsh5.out.below hb6).mono hsz6)
        have hlb6 := hide ((hlb5.out.below hb6).mono hsz6)
        have hBa6 := hB16
        have hBt6 := hB26
        have hBm6 := hB6
        have hMm6 := hM6
        refine Calls.ret (Minimal_any _ M w6 hM6.out hBM.out) ?_
        rintro v w7 ⟨hb7, hres⟩
        have hb07 : Below w.heap.size w w7 := hb06.trans (hb7.mono (by omega))
        have hsz7 := hb7.size
        have hBa7 := hBa6.kept (Kept.of_below hb7 (fun _ => False)) id
        have hca7 := hBa7.cell
        have hBt7 := hBt6.kept (Kept.of_below hb7 (fun _ => False)) id
        have hct7 := hBt7.cell
        have hBm7 := hBm6.kept (Kept.of_below hb7 (fun _ => False)) id
        have hcm7 := hBm7.cell
        have hTa7 := hide (hTa6.out.keep (fun _ hp => hb7.cell hp) hsz7)
        have hMm7 := hide (hMm6.out.keep (fun _ hp => hb7.cell hp) hsz7)
        have hsh7 := hide ((hsh6.out.below hb7).mono hsz7)
        have hlb7 := hide ((hlb6.out.below hb7).mono hsz7)
        rcases hres with ⟨hv, -⟩ | ⟨-, hL, -⟩ | ⟨-, -, ac', lf', t', va', rfl, hok', -, hcan', hown'⟩
        · rw [hpv.out] at hv
          cases hv
        · exact absurd hL hNM.out
        · rw [hLE.out] at hok' hcan' hown'
          have hM7 := own_ta hown'
          rw [hSA.out _ _ _ hok' hcan'] at hM7
          have hNn7 := hide hM7
          obtain ⟨A7, c7, A8, c8, A9, c9, rfl, -, -, -⟩ := hM7
          clear hown' hok' hcan'
          obtain ⟨w8, hw8, hb8, hBn8, hk8⟩ := box_blk w7 #[.int .i64 M.letters, .int .i64 M.states, .slice A7 M.accept.length c7, .slice A8 M.leaves.length c8, .slice A9 M.branches.length c9] 26
          have hcn8 := hBn8.cell
          have hb08 : Below w.heap.size w w8 := hb07.trans (hb8.mono (by omega))
          have hsz8 := hb8.size
          have hBa8 := hBa7.kept (Kept.of_below hb8 (fun _ => False)) id
          have hca8 := hBa8.cell
          have hBt8 := hBt7.kept (Kept.of_below hb8 (fun _ => False)) id
          have hct8 := hBt8.cell
          have hBm8 := hBm7.kept (Kept.of_below hb8 (fun _ => False)) id
          have hcm8 := hBm8.cell
          have hTa8 := hide (hTa7.out.keep (fun _ hp => hb8.cell hp) hsz8)
          have hMm8 := hide (hMm7.out.keep (fun _ hp => hb8.cell hp) hsz8)
          have hNn8 := hide (hNn7.out.keep (fun _ hp => hb8.cell hp) hsz8)
          have hsh8 := hide ((hsh7.out.below hb8).mono hsz8)
          have hlb8 := hide ((hlb7.out.below hb8).mono hsz8)
          go_wp2_with fail
          refine Calls.ret (accepts_any hTa8.out hsh8.out hlb8.out (Nat.le_refl _) (Nat.le_refl _)) ?_
          rintro v w9 ⟨rfl, hb9⟩
          have hb09 : Below w.heap.size w w9 := hb08.trans (hb9.mono (by omega))
          have hsz9 := hb9.size
          have hBa9 := hBa8.kept (Kept.of_below hb9 (fun _ => False)) id
          have hca9 := hBa9.cell
          have hBt9 := hBt8.kept (Kept.of_below hb9 (fun _ => False)) id
          have hct9 := hBt9.cell
          have hBm9 := hBm8.kept (Kept.of_below hb9 (fun _ => False)) id
          have hcm9 := hBm9.cell
          have hBn9 := hBn8.kept (Kept.of_below hb9 (fun _ => False)) id
          have hcn9 := hBn9.cell
          have hTa9 := hide (hTa8.out.keep (fun _ hp => hb9.cell hp) hsz9)
          have hMm9 := hide (hMm8.out.keep (fun _ hp => hb9.cell hp) hsz9)
          have hNn9 := hide (hNn8.out.keep (fun _ hp => hb9.cell hp) hsz9)
          have hsh9 := hide ((hsh8.out.below hb9).mono hsz9)
          have hlb9 := hide ((hlb8.out.below hb9).mono hsz9)
          obtain ⟨x, y, hxy⟩ : ∃ x y, accT a sh lb = .tuple #[.bool x, .int .i64 y] := by
            unfold accT
            split
            · exact ⟨_, _, rfl⟩
            · exact ⟨_, _, rfl⟩
          rw [hxy]
          have HXY := hide hxy
          clear hxy
          go_wp2_with fail
          refine Calls.ret (accepts_any hMm9.out hsh9.out hlb9.out (Nat.le_refl _) (Nat.le_refl _)) ?_
          rintro v w10 ⟨rfl, hb10⟩
          have hb010 : Below w.heap.size w w10 := hb09.trans (hb10.mono (by omega))
          have hsz10 := hb10.size
          have hBa10 := hBa9.kept (Kept.of_below hb10 (fun _ => False)) id
          have hca10 := hBa10.cell
          have hBt10 := hBt9.kept (Kept.of_below hb10 (fun _ => False)) id
          have hct10 := hBt10.cell
          have hBm10 := hBm9.kept (Kept.of_below hb10 (fun _ => False)) id
          have hcm10 := hBm10.cell
          have hBn10 := hBn9.kept (Kept.of_below hb10 (fun _ => False)) id
          have hcn10 := hBn10.cell
          have hTa10 := hide (hTa9.out.keep (fun _ hp => hb10.cell hp) hsz10)
          have hMm10 := hide (hMm9.out.keep (fun _ hp => hb10.cell hp) hsz10)
          have hNn10 := hide (hNn9.out.keep (fun _ hp => hb10.cell hp) hsz10)
          have hsh10 := hide ((hsh9.out.below hb10).mono hsz10)
          have hlb10 := hide ((hlb9.out.below hb10).mono hsz10)
          rw [hacc.out, HXY.out]
          have heq1 : (x == x) = true := by simp
          have heq2 : (y == y) = true := by simp
          go_wp2_with fail
          refine Calls.ret (sameAutomaton_eq hMm10.out hNn10.out) ?_
          rintro v w11 ⟨rfl, hb11⟩
          have hb011 : Below w.heap.size w w11 := hb010.trans (hb11.mono (by omega))
          have hsz11 := hb11.size
          go_wp2_with fail
          refine Calls.ret (known_any w11) ?_
          rintro v w12 ⟨rfl, hb12⟩
          have hb012 := hide (hb011.trans (hb12.mono (by omega)))
          clear hb12
          go_wp2_with fail
          go_ret
          exact ⟨rfl, hb012.out⟩
end Go.Proofs.Ytnimlcbgeiajiaa

namespace Go.Proofs.Ytnimlcbgeiajiaa
open Go.RowKit

set_option maxHeartbeats 8000000 in
set_option maxRecDepth 100000 in
theorem lawMergeC {v : Value} {d : Int} {a : TA} {w : World} {c1' c2' : Nat} {D1 D2 : Option Addr} {sh lb : List Int} (h : IsTA w w.heap.size v a) (hs : Sl w w.heap.size 1 encI D1 sh) (hl : Sl w w.heap.size 1 encI D2 lb) :
    Calls Try.prog 11 #[v, .int .i64 d, .agg #[.slice D1 sh.length c1', .slice D2 lb.length c2']] w (Ret fun v w' => v = .bool true ∧ Below w.heap.size w w') := by
  obtain ⟨A1, c1, A2, c2, A3, c3, rfl, h1, h2, h3⟩ := h
  obtain ⟨w1, hw1, hb1, hB1, hk1⟩ := box_blk w #[.int .i64 a.letters, .int .i64 a.states, .slice A1 a.accept.length c1, .slice A2 a.leaves.length c2, .slice A3 a.branches.length c3] 26
  obtain ⟨w2, hw2, hb2, hB2, hk2⟩ := box_blk w1 #[.slice D1 sh.length c1', .slice D2 lb.length c2'] 40
  have hsz1 := hb1.size
  have hsz2 := hb2.size
  have hb02 := hb1.trans (hb2.mono hsz1)
  have hB12 := hB1.kept hk2 id
  have hcb1 := hB12.cell
  have hcb2 := hB2.cell
  have hT : IsTA w2 w2.heap.size (.agg #[.int .i64 a.letters, .int .i64 a.states, .slice A1 a.accept.length c1, .slice A2 a.leaves.length c2, .slice A3 a.branches.length c3]) a :=
    IsTA.keep ⟨A1, c1, A2, c2, A3, c3, rfl, h1, h2, h3⟩ (fun _ hp => hb02.cell hp) (by omega)
  have hTT := hide hT
  have hs2 := hide ((hs.below hb02).mono (B' := w2.heap.size) (by omega))
  have hl2 := hide ((hl.below hb02).mono (B' := w2.heap.size) (by omega))
  have hns := hs.1
  have hnl := hl.1
  clear hT h1 h2 h3
  go_enter Try.func11, Try.ntmps11
  go_wp2_with fail
  refine Calls.ret (small_any hTT.out) ?_
  rintro v w3 ⟨rfl, hb3⟩
  have hb03 : Below w.heap.size w w3 := hb02.trans (hb3.mono (by omega))
  have hB13 := hB12.kept (Kept.of_below hb3 (fun _ => False)) id
  have hB23 := hB2.kept (Kept.of_below hb3 (fun _ => False)) id
  have hcb3 := hB13.cell
  have hdb3 := hB23.cell
  have hsz3 := hb3.size
  cases hsm : a.small with
  | false =>
    go_wp2_with fail
    refine Calls.ret (known_any w3) ?_
    rintro v w4 ⟨rfl, hb4⟩
    have hb04 := hide (hb03.trans (hb4.mono (by omega)))
    clear hb4
    go_wp2_with fail
    go_ret
    exact ⟨rfl, hb04.out⟩
  | true =>
    have hbr : a.branches.length ≤ 900000 := by
      have : a.big = false := by
        cases hb : a.big
        · rfl
        · simp [TA.small, hb] at hsm
      simp [TA.big] at this
      omega
    have hBR := hide hbr
    clear hbr hsm
    have hs3 := hide ((hs2.out.below hb3).mono hsz3)
    have hl3 := hide ((hl2.out.below hb3).mono hsz3)
    have hT3 := hide (hTT.out.keep (fun _ hp => hb3.cell hp) hsz3)
    go_wp2_with fail
    refine Calls.ret (long_any hs3.out hl3.out) ?_
    rintro v w4 ⟨rfl, hb4⟩
    have hb04 : Below w.heap.size w w4 := hb03.trans (hb4.mono (by omega))
    have hsz4 := hb4.size
    have hB14 := hB13.kept (Kept.of_below hb4 (fun _ => False)) id
    have hB24 := hB23.kept (Kept.of_below hb4 (fun _ => False)) id
    have hcb4 := hB14.cell
    have hdb4 := hB24.cell
    cases hlong : (decide (60 < sh.length) || decide (60 < lb.length)) with
    | true =>
      go_wp2_with fail
      refine Calls.ret (known_any w4) ?_
      rintro v w5 ⟨rfl, hb5⟩
      have hb05 := hide (hb04.trans (hb5.mono (by omega)))
      clear hb5
      go_wp2_with fail
      go_ret
      exact ⟨rfl, hb05.out⟩
    | false =>
      have hs4 := hide ((hs3.out.below hb4).mono hsz4)
      have hl4 := hide ((hl3.out.below hb4).mono hsz4)
      have hT4 := hide (hT3.out.keep (fun _ hp => hb4.cell hp) hsz4)
      clear hlong
      go_wp2_with fail
      refine Calls.ret (Merge_any _ a d w4 hT4.out hBR.out) ?_
      rintro v w5 ⟨hb5, hres⟩
      have hBa4 := hB14
      have hBt4 := hB24
      have hTa4 := hT4
      have hsh4 := hs4
      have hlb4 := hl4
      have hb05 : Below w.heap.size w w5 := hb04.trans (hb5.mono (by omega))
      have hsz5 := hb5.size
      have hBa5 := hBa4.kept (Kept.of_below hb5 (fun _ => False)) id
      have hca5 := hBa5.cell
      have hBt5 := hBt4.kept (Kept.of_below hb5 (fun _ => False)) id
      have hct5 := hBt5.cell
      have hTa5 := hide (hTa4.out.keep (fun _ hp => hb5.cell hp) hsz5)
      have hsh5 := hide ((hsh4.out.below hb5).mono hsz5)
      have hlb5 := hide ((hlb4.out.below hb5).mono hsz5)
      rcases hres with ⟨e, he0, rfl⟩ | ⟨hv, ac, lf, t, va, rfl, hok, hn, hlang, hown⟩
      · have hne : (e != 0) = true := by simpa using he0
        unfold zeroTA
        obtain ⟨w6, hw6, hb6, hBm6, hk6⟩ := box_blk w5 #[.int .i64 0, .int .i64 0, .slice none 0 0, .slice none 0 0, .slice none 0 0] 26
        have hb06 : Below w.heap.size w w6 := hb05.trans (hb6.mono (by omega))
        have hsz6 := hb6.size
        have hBa6 := hBa5.kept (Kept.of_below hb6 (fun _ => False)) id
        have hca6 := hBa6.cell
        have hBt6 := hBt5.kept (Kept.of_below hb6 (fun _ => False)) id
        have hct6 := hBt6.cell
        have hTa6 := hide (hTa5.out.keep (fun _ hp => hb6.cell hp) hsz6)
        have hsh6 := hide ((hsh5.out.below hb6).mono hsz6)
        have hlb6 := hide ((hlb5.out.below hb6).mono hsz6)
        have hlt1 := hBa5.lt
        have hlt2 := hBt5.lt
        have hWB := hide hw6
        clear hw6
        go_wp2_with fail
        rw [hWB.out]
        refine Calls.ret (accepts_any hTa6.out hsh6.out hlb6.out (Nat.le_refl _) (Nat.le_refl _)) ?_
        rintro v w7 ⟨rfl, hb7⟩
        have hb07 : Below w.heap.size w w7 := hb06.trans (hb7.mono (by omega))
        have hsz7 := hb7.size
        obtain ⟨x, y, hxy⟩ : ∃ x y, accT a sh lb = .tuple #[.bool x, .int .i64 y] := by
          unfold accT
          split
          · exact ⟨_, _, rfl⟩
          · exact ⟨_, _, rfl⟩
        rw [hxy]
        clear hxy
        go_wp2_with fail
        refine Calls.ret (known_any w7) ?_
        rintro v w8 ⟨rfl, hb8⟩
        have hb08 := hide (hb07.trans (hb8.mono (by omega)))
        clear hb8
        go_wp2_with fail
        go_ret
        exact ⟨rfl, hb08.out⟩
      · have hV := hide hv
        have hOK := hide hok
        have hLG := hide hlang
        clear hv hok hlang
        obtain ⟨hL1, hL8, -, -, -, -, -, -⟩ := TA.valid_parts hV.out
        have hM5 := hide (own_ta hown)
        obtain ⟨A4, c4, A5, c5, A6, c6, rfl, -, -, -⟩ := own_ta hown
        clear hown
        have hpv := hide (plain_valid hOK.out (by omega) (by omega) hn)
        have hml := hide (fun tr htr => plain_lang hOK.out tr htr)
        have hlet : (plainA a.letters.toNat ac lf t).letters = a.letters := by simp [plainA]; omega
        have hLE := hide hlet
        clear hlet
        obtain ⟨w6, hw6, hb6, hBm6, hk6⟩ := box_blk w5 #[.int .i64 (plainA a.letters.toNat ac lf t).letters, .int .i64 (plainA a.letters.toNat ac lf t).states, .slice A4 (plainA a.letters.toNat ac lf t).accept.length c4, .slice A5 (plainA a.letters.toNat ac lf t).leaves.length c5, .slice A6 (plainA a.letters.toNat ac lf t).branches.length c6] 26
        have hcm6 := hBm6.cell
        generalize plainA a.letters.toNat ac lf t = M at *
        have hMm5 := hM5
        have hb06 : Below w.heap.size w w6 := hb05.trans (hb6.mono (by omega))
        have hsz6 := hb6.size
        have hBa6 := hBa5.kept (Kept.of_below hb6 (fun _ => False)) id
        have hca6 := hBa6.cell
        have hBt6 := hBt5.kept (Kept.of_below hb6 (fun _ => False)) id
        have hct6 := hBt6.cell
        have hTa6 := hide (hTa5.out.keep (fun _ hp => hb6.cell hp) hsz6)
        have hMm6 := hide (hMm5.out.keep (fun _ hp => hb6.cell hp) hsz6)
        have hsh6 := hide ((hsh5.out.below hb6).mono hsz6)
        have hlb6 := hide ((hlb5.out.below hb6).mono hsz6)
        go_wp2_with fail
        refine Calls.ret (accepts_any hTa6.out hsh6.out hlb6.out (Nat.le_refl _) (Nat.le_refl _)) ?_
        rintro v w7 ⟨rfl, hb7⟩
        have hb07 : Below w.heap.size w w7 := hb06.trans (hb7.mono (by omega))
        have hsz7 := hb7.size
        have hBa7 := hBa6.kept (Kept.of_below hb7 (fun _ => False)) id
        have hca7 := hBa7.cell
        have hBt7 := hBt6.kept (Kept.of_below hb7 (fun _ => False)) id
        have hct7 := hBt7.cell
        have hBm7 := hBm6.kept (Kept.of_below hb7 (fun _ => False)) id
        have hcm7 := hBm7.cell
        have hTa7 := hide (hTa6.out.keep (fun _ hp => hb7.cell hp) hsz7)
        have hMm7 := hide (hMm6.out.keep (fun _ hp => hb7.cell hp) hsz7)
        have hsh7 := hide ((hsh6.out.below hb7).mono hsz7)
        have hlb7 := hide ((hlb6.out.below hb7).mono hsz7)
        cases hvt : validT a.letters sh lb
        · have hac : accT a sh lb = .tuple #[.bool false, .int .i64 1] := by simp [accT, hvt]
          rw [hac]
          clear hac hvt
          go_wp2_with fail
          refine Calls.ret (known_any w7) ?_
          rintro v w8 ⟨rfl, hb8⟩
          have hb08 := hide (hb07.trans (hb8.mono (by omega)))
          clear hb8
          go_wp2_with fail
          go_ret
          exact ⟨rfl, hb08.out⟩
        · have hac : accT a sh lb = .tuple #[.bool (a.lang (treeOf sh lb)), .int .i64 0] := by simp [accT, hvt, hV.out]
          have hmc := hide (show accT M sh lb = .tuple #[.bool (M.lang (treeOf sh lb)), .int .i64 0] by simp [accT, hvt, hpv.out, hLE.out])
          have hok2 := (validT_tree hvt).2.1
          have himp : a.lang (treeOf sh lb) = true → M.lang (treeOf sh lb) = true := fun h => (hml.out _ hok2).trans (hLG.out _ hok2 h)
          rw [hac]
          clear hac hvt hok2
          go_wp2_with fail
          refine Calls.ret (accepts_any hMm7.out hsh7.out hlb7.out (Nat.le_refl _) (Nat.le_refl _)) ?_
          rintro v w8 ⟨rfl, hb8⟩
          have hb08 : Below w.heap.size w w8 := hb07.trans (hb8.mono (by omega))
          have hsz8 := hb8.size
          rw [hmc.out]
          generalize M.lang (treeOf sh lb) = ym at *
          generalize a.lang (treeOf sh lb) = xa at *
          have himp2 := hide himp
          clear himp
          cases xa
          all_goals
            cases ym
            all_goals
              first
              | exact absurd (himp2.out rfl) (by decide)
              | (go_wp2_with fail
                 refine Calls.ret (known_any w8) ?_
                 rintro v w9 ⟨rfl, hb9⟩
                 have hb09 := hide (hb08.trans (hb9.mono (by omega)))
                 clear hb9
                 go_wp2_with fail
                 go_ret
                 exact ⟨rfl, hb09.out⟩)
end Go.Proofs.Ytnimlcbgeiajiaa

namespace Go.Proofs.Ytnimlcbgeiajiaa
open Go.RowKit

set_option maxHeartbeats 4000000 in
set_option maxRecDepth 100000 in
theorem lawValidates (v : Value) (a : TA) (w : World) (h : IsTA w w.heap.size v a) :
    Calls Try.prog 3 #[v] w (Ret fun v w' => v = .bool true ∧ Below w.heap.size w w') := by
  obtain ⟨A1, c1, A2, c2, A3, c3, rfl, h1, h2, h3⟩ := h
  obtain ⟨w1, hw1, hb1, hB1, hk1⟩ := box_blk w #[.int .i64 a.letters, .int .i64 a.states, .slice A1 a.accept.length c1, .slice A2 a.leaves.length c2, .slice A3 a.branches.length c3] 26
  have hsz1 := hb1.size
  have hcb := hB1.cell
  have hT : IsTA w1 w1.heap.size (.agg #[.int .i64 a.letters, .int .i64 a.states, .slice A1 a.accept.length c1, .slice A2 a.leaves.length c2, .slice A3 a.branches.length c3]) a :=
    IsTA.keep ⟨A1, c1, A2, c2, A3, c3, rfl, h1, h2, h3⟩ (fun _ hp => hb1.cell hp) hsz1
  have hTT := hide hT
  clear hT h1 h2 h3
  go_enter Try.func3, Try.ntmps3
  go_wp2_with fail
  refine (Big_any _ a w1 hTT.out).mono ?_
  rintro e w2 ⟨rfl, hb2⟩
  have hb02 : Below w.heap.size w w2 := hb1.trans (hb2.mono hsz1)
  have hB2 := hB1.below hb2
  have hcb2 := hB2.cell
  have hsz2 := hb2.size
  cases hbig : a.big with
  | true =>
    go_wp2_with fail
    refine Calls.ret (known_any w2) ?_
    rintro v w3 ⟨rfl, hb3⟩
    have hb03 := hide (hb02.trans (hb3.mono (by omega)))
    clear hb3
    go_wp2_with fail
    go_ret
    exact ⟨rfl, hb03.out⟩
  | false =>
    have hT2 := hide (hTT.out.keep (fun _ hp => hb2.cell hp) hsz2)
    go_wp2_with fail
    refine Reg.region_cut [0, 1, 0, 7, 15, 31, 63, 127, 255] [0, 2, 1, 3, 4, 5, 6, 7, 8] (by kernel_rfl) (by repeat (first | exact Reg.NoQ.body (fun _ _ h => h) (fun _ h => h) | refine Reg.NoQ.then ?_ | refine Reg.NoQ.inBlock ?_)) ?_
    refine Reg.rest_walk' [0, 2] [1, 3, 4, 5, 6, 7, 8] rfl (by kernel_rfl) ?_
    intro Qf hQf
    go_wp2_with fail
    rw [List.filterMap_nil]
    go_wp2_with fail
    refine Reg.rest_act' 1 [3, 4, 5, 6, 7, 8] [2] rfl (by kernel_rfl) ?_
    intro Qf hQf
    simp only [List.getElem_toArray, List.getElem_cons_succ, List.getElem_cons_zero]
    have hT3 := hide (hT2.out.below (drew_below w2))
    go_wp2_with (go_at_call 18; refine (validate_any _ a w2.drew hT3.out).mono ?_; rintro e w3 ⟨rfl, hb3⟩)
    refine ⟨Reg.same_below hb3 [2] rfl, ?_⟩
    have hb23 : Below w2.heap.size w2 w3 := (drew_below w2).trans hb3
    have hT4 := hide ((hTT.out.keep (fun _ hp => hb2.cell hp) hsz2).keep (fun _ hp => hb23.cell hp) hb23.size)
    have hb03 := hb02.trans (hb23.mono (by omega))
    have hsz3 := hb23.size
    refine Reg.rest_act' 3 [4, 5, 6, 7, 8] [] rfl (by kernel_rfl) ?_
    intro Qf hQf
    simp only [List.getElem_toArray, List.getElem_cons_succ, List.getElem_cons_zero]
    go_wp2_with (go_at_call 19; refine (refValidate_any _ a w3 hT4.out).mono ?_; rintro e w4 ⟨rfl, hb4⟩)
    refine ⟨fun r hr => absurd hr (List.not_mem_nil), ?_⟩
    have hb04 := hb03.trans (hb4.mono (by omega))
    have hsz4 := hb4.size
    generalize errno a.valid = er at *
    have heq : (er == er) = true := by simp
    refine Reg.rest_walk' [4, 5] [6, 7, 8] rfl (by kernel_rfl) ?_
    intro Qf hQf
    go_wp2_with fail
    rw [List.filterMap_nil]
    go_wp2_with fail
    refine Reg.rest_act' 6 [7, 8] [] rfl (by kernel_rfl) ?_
    intro Qf hQf
    simp only [List.getElem_toArray, List.getElem_cons_succ, List.getElem_cons_zero]
    go_wp2_with (go_at_call 17; refine Calls.ret (known_any w4) ?_; rintro v w5 ⟨rfl, hb5⟩)
    refine ⟨fun r hr => absurd hr (List.not_mem_nil), ?_⟩
    have hb05 := hide (hb04.trans (hb5.mono (by omega)))
    refine Reg.rest_walk' [7, 8] [] rfl (by kernel_rfl) ?_
    intro Qf hQf
    go_wp2_with fail
    rw [List.filterMap_nil]
    go_wp2_with fail
    refine Reg.rest_end ?_
    go_wp2_with fail
    go_ret
    exact ⟨rfl, hb05.out⟩
end Go.Proofs.Ytnimlcbgeiajiaa

namespace Go.Proofs.Ytnimlcbgeiajiaa
open Go.RowKit Go.ChangeShapes Go.WideShapes Go.Deep

section
variable {H : Type} {enc : TypeId × Value → H} {P : Program} {w : World} {base : Nat} {spare : Nat → Bool} {held : Bool}
theorem cell_lt {w : World} {a : Addr} {v : Value} (h : w.cell? a = some v) : a.block < w.heap.size := by
  unfold World.cell? at h
  split at h
  · rename_i hh
    exact (Array.getElem?_eq_some_iff.1 hh).1
  · cases h
theorem add_plain_ (b off i : Nat) : (⟨b, off, none⟩ : Addr).add i = ⟨b, off + i, none⟩ := by
  unfold Addr.add
  split <;> simp_all
/-- A list whose elements are chosen one by one. -/
theorem choose_list {D : Type} {p : Nat → D → Prop} : ∀ n : Nat, (∀ i, i < n → ∃ d, p i d) → ∃ l : List D, l.length = n ∧ ∀ (i : Nat) (d : D), l[i]? = some d → p i d
  | 0, _ => ⟨[], rfl, fun i d h => by simp at h⟩
  | n + 1, h => by
    obtain ⟨l, hl, hp⟩ := choose_list n fun i hi => h i (by omega)
    obtain ⟨d, hd⟩ := h n (by omega)
    refine ⟨l ++ [d], by simp [hl], fun i x hx => ?_⟩
    by_cases hi : i < l.length
    · rw [List.getElem?_append_left hi] at hx
      exact hp i x hx
    · have h1 := lt_of_get hx
      simp at h1
      obtain rfl : i = l.length := by omega
      simp at hx
      subst hx
      rw [hl]
      exact hd
/-- A slice whose elements are known cell by cell. -/
theorem sl_of {D : Type} {sz : Nat} {enc : D → Nat → Value} {a : Addr} {len : Nat} (hs : 0 < sz) (hlen : len ≤ 9223372036854775807) (h : ∀ i, i < len → ∃ d : D, ∀ j, j < sz → w.cell? (a.add (i * sz + j)) = some (enc d j)) :
    ∃ ds : List D, ds.length = len ∧ Sl w w.heap.size sz enc (some a) ds := by
  obtain ⟨ds, hl, hd⟩ := choose_list len h
  refine ⟨ds, hl, by omega, fun hne => ?_⟩
  obtain ⟨b, off, spot⟩ := a
  obtain ⟨d0, hd0⟩ := get_lt (l := ds) (i := 0) (by cases ds; exact absurd rfl hne; simp)
  have h0 := hd 0 d0 hd0 0 hs
  have hspot : spot = none := by simpa [Addr.add] using World.cell?_spot h0
  subst hspot
  have hb := cell_lt h0
  rw [add_plain_] at hb
  refine ⟨b, off, rfl, hb, fun k d hk j hj => ?_⟩
  have := hd k d hk j hj
  rw [add_plain_] at this
  rw [Nat.add_assoc]
  exact this
end

section
variable {H : Type} {enc : TypeId × Value → H} {w : World} {base : Nat} {spare : Nat → Bool} {held : Bool}
theorem intAt {cs : List Value} {n i : Nat} {x : Option (DataW H × List MemPlace)} (h : DataW.trod enc Try.prog w base spare held n 3 ((cs.drop i).take 1) = x) (hx : x.isSome = true) : ∃ z : Int, cs[i]? = some (.int .i64 z) := by
  obtain ⟨y, rfl⟩ := Option.isSome_iff_exists.1 hx
  obtain ⟨z, hz, _⟩ := DataW.trod_int Try.underlying3 h
  refine ⟨z, ?_⟩
  have h1 : ((cs.drop i).take 1)[0]? = some (.int .i64 z) := by rw [hz]; rfl
  rw [List.getElem?_take] at h1
  simpa using h1
theorem ints_in {fuel : Nat} {v : Value} {x : DataW H × List MemPlace} (h : DataW.trod enc Try.prog w base spare held fuel 22 [v] = some x) : ∃ A c, ∃ xs : List Int, v = .slice A xs.length c ∧ Sl w w.heap.size 1 encI A xs := by
  rcases open_ints Try.underlying22 Try.underlying3 (by kernel_rfl) h with ⟨h1, -⟩ | ⟨a, len, cap, zs, h1, -, hlc, hcm, hzl, -, hc, -⟩
  · injection h1 with h1 _
    subst h1
    exact ⟨none, 0, [], rfl, Sl.nil rfl⟩
  · injection h1 with h1 _
    subst h1
    have hle : len ≤ zs.length := by rw [hzl]; split <;> omega
    obtain ⟨ds, hl, hs⟩ := sl_of (w := w) (enc := encI) (a := a) (len := len) (sz := 1) (by omega) (by unfold maxLen at hcm; omega) (fun i hi => ⟨zs.getD i 0, fun j hj => by
      have : j = 0 := by omega
      subst this
      rw [Nat.mul_one, Nat.add_zero]
      exact hc i (by omega)⟩)
    exact ⟨some a, cap, ds, by rw [hl], hs⟩
theorem leaves_in {fuel : Nat} {v : Value} {x : DataW H × List MemPlace} (h : DataW.trod enc Try.prog w base spare held fuel 23 [v] = some x) : ∃ A c, ∃ xs : List Leaf, v = .slice A xs.length c ∧ Sl w w.heap.size 2 encL A xs := by
  rcases open_slice Try.underlying23 h with ⟨h1, -⟩ | ⟨a, len, cap, m, n, D, Pl, h1, -, hlc, hcm, hm, -, hc⟩
  · injection h1 with h1 _
    subst h1
    exact ⟨none, 0, [], rfl, Sl.nil rfl⟩
  · injection h1 with h1 _
    subst h1
    have hC : Try.prog.cellsOf 36 = 2 := by kernel_rfl
    rw [hC] at hc
    have hle : len ≤ m := by rw [hm]; split <;> omega
    obtain ⟨ds, hl, hs⟩ := sl_of (w := w) (enc := encL) (a := a) (len := len) (sz := 2) (by omega) (by unfold maxLen at hcm; omega) (fun i hi => by
      obtain ⟨cs, hcs, ht⟩ := hc i (by omega)
      obtain ⟨_, hlen, hcell⟩ := World.cells?_some hcs
      obtain ⟨xs, n', _, _, _, hxl, hf⟩ := DataW.trod_struct Try.underlying36 ht
      have hxs : ∀ k, k < 2 → (xs[k]?).isSome = true := fun k hk => by
        have : xs.length = 2 := hxl
        rw [List.getElem?_eq_getElem (by omega)]
        rfl
      have h3 : Try.prog.cellsOf 3 = 1 := by kernel_rfl
      have f0 : DataW.trod enc Try.prog w base spare held n' 3 ((cs.drop 0).take (Try.prog.cellsOf 3)) = xs[0]? := hf 0 _ rfl
      have f1 : DataW.trod enc Try.prog w base spare held n' 3 ((cs.drop 1).take (Try.prog.cellsOf 3)) = xs[1]? := hf 1 _ rfl
      rw [h3] at f0 f1
      obtain ⟨z0, e0⟩ := intAt f0 (hxs 0 (by omega))
      obtain ⟨z1, e1⟩ := intAt f1 (hxs 1 (by omega))
      refine ⟨⟨z0, z1⟩, fun j hj => ?_⟩
      have g := hcell j hj
      have hadd : (a.add (i * 2)).add j = a.add (i * 2 + j) := Go.Deep.add_add ..
      rw [hadd] at g
      rw [g]
      match j, hj with
      | 0, _ => exact e0
      | 1, _ => exact e1)
    exact ⟨some a, cap, ds, by rw [hl], hs⟩
theorem branches_in {fuel : Nat} {v : Value} {x : DataW H × List MemPlace} (h : DataW.trod enc Try.prog w base spare held fuel 24 [v] = some x) : ∃ A c, ∃ xs : List Branch, v = .slice A xs.length c ∧ Sl w w.heap.size 4 encBr A xs := by
  rcases open_slice Try.underlying24 h with ⟨h1, -⟩ | ⟨a, len, cap, m, n, D, Pl, h1, -, hlc, hcm, hm, -, hc⟩
  · injection h1 with h1 _
    subst h1
    exact ⟨none, 0, [], rfl, Sl.nil rfl⟩
  · injection h1 with h1 _
    subst h1
    have hC : Try.prog.cellsOf 59 = 4 := by kernel_rfl
    rw [hC] at hc
    have hle : len ≤ m := by rw [hm]; split <;> omega
    obtain ⟨ds, hl, hs⟩ := sl_of (w := w) (enc := encBr) (a := a) (len := len) (sz := 4) (by omega) (by unfold maxLen at hcm; omega) (fun i hi => by
      obtain ⟨cs, hcs, ht⟩ := hc i (by omega)
      obtain ⟨_, hlen, hcell⟩ := World.cells?_some hcs
      obtain ⟨xs, n', _, _, _, hxl, hf⟩ := DataW.trod_struct Try.underlying59 ht
      have hxs : ∀ k, k < 4 → (xs[k]?).isSome = true := fun k hk => by
        have : xs.length = 4 := hxl
        rw [List.getElem?_eq_getElem (by omega)]
        rfl
      have h3 : Try.prog.cellsOf 3 = 1 := by kernel_rfl
      have f0 : DataW.trod enc Try.prog w base spare held n' 3 ((cs.drop 0).take (Try.prog.cellsOf 3)) = xs[0]? := hf 0 _ rfl
      have f1 : DataW.trod enc Try.prog w base spare held n' 3 ((cs.drop 1).take (Try.prog.cellsOf 3)) = xs[1]? := hf 1 _ rfl
      have f2 : DataW.trod enc Try.prog w base spare held n' 3 ((cs.drop 2).take (Try.prog.cellsOf 3)) = xs[2]? := hf 2 _ rfl
      have f3 : DataW.trod enc Try.prog w base spare held n' 3 ((cs.drop 3).take (Try.prog.cellsOf 3)) = xs[3]? := hf 3 _ rfl
      rw [h3] at f0 f1 f2 f3
      obtain ⟨z0, e0⟩ := intAt f0 (hxs 0 (by omega))
      obtain ⟨z1, e1⟩ := intAt f1 (hxs 1 (by omega))
      obtain ⟨z2, e2⟩ := intAt f2 (hxs 2 (by omega))
      obtain ⟨z3, e3⟩ := intAt f3 (hxs 3 (by omega))
      refine ⟨⟨z0, z1, z2, z3⟩, fun j hj => ?_⟩
      have g := hcell j hj
      have hadd : (a.add (i * 4)).add j = a.add (i * 4 + j) := Go.Deep.add_add ..
      rw [hadd] at g
      rw [g]
      match j, hj with
      | 0, _ => exact e0
      | 1, _ => exact e1
      | 2, _ => exact e2
      | 3, _ => exact e3)
    exact ⟨some a, cap, ds, by rw [hl], hs⟩
set_option maxRecDepth 100000 in
/-- An automaton that comes in. -/
theorem ta_in {r : Go.Reach} {b0 : Nat} {v : Value} {d : DataW H} {p : List MemPlace} (hv : Value.okWide Try.prog w r b0 26 v) (h : DataW.Trod enc Try.prog w base spare held 26 v d p) : ∃ a : TA, IsTA w w.heap.size v a := by
  obtain ⟨cs, rfl, hsz⟩ := okWide_struct Try.underlying26 hv
  obtain ⟨l⟩ := cs
  have hC : Try.prog.cellsOf 26 = 5 := by kernel_rfl
  match l, hsz.trans hC with
  | [c0, c1, c2, c3, c4], _ =>
    obtain ⟨fuel, hf⟩ := h
    obtain ⟨xs, n, _, _, _, hxl, hg⟩ := DataW.trod_struct Try.underlying26 hf
    have hxs : ∀ k, k < 5 → ∃ y, xs[k]? = some y := fun k hk => get_lt (by have : xs.length = 5 := hxl; omega)
    have h3 : Try.prog.cellsOf 3 = 1 := by kernel_rfl
    have h22 : Try.prog.cellsOf 22 = 1 := by kernel_rfl
    have h23 : Try.prog.cellsOf 23 = 1 := by kernel_rfl
    have h24 : Try.prog.cellsOf 24 = 1 := by kernel_rfl
    have g0 : DataW.trod enc Try.prog w base spare held n 3 (([c0, c1, c2, c3, c4].drop 0).take (Try.prog.cellsOf 3)) = xs[0]? := hg 0 _ rfl
    have g1 : DataW.trod enc Try.prog w base spare held n 3 (([c0, c1, c2, c3, c4].drop 1).take (Try.prog.cellsOf 3)) = xs[1]? := hg 1 _ rfl
    have g2 : DataW.trod enc Try.prog w base spare held n 22 (([c0, c1, c2, c3, c4].drop 2).take (Try.prog.cellsOf 22)) = xs[2]? := hg 2 _ rfl
    have g3 : DataW.trod enc Try.prog w base spare held n 23 (([c0, c1, c2, c3, c4].drop 3).take (Try.prog.cellsOf 23)) = xs[3]? := hg 3 _ rfl
    have g4 : DataW.trod enc Try.prog w base spare held n 24 (([c0, c1, c2, c3, c4].drop 4).take (Try.prog.cellsOf 24)) = xs[4]? := hg 4 _ rfl
    rw [h3] at g0 g1
    rw [h22] at g2
    rw [h23] at g3
    rw [h24] at g4
    obtain ⟨y2, e2⟩ := hxs 2 (by omega)
    obtain ⟨y3, e3⟩ := hxs 3 (by omega)
    obtain ⟨y4, e4⟩ := hxs 4 (by omega)
    obtain ⟨z0, q0⟩ := intAt g0 (by obtain ⟨y, e⟩ := hxs 0 (by omega); rw [e]; rfl)
    obtain ⟨z1, q1⟩ := intAt g1 (by obtain ⟨y, e⟩ := hxs 1 (by omega); rw [e]; rfl)
    rw [e2] at g2
    rw [e3] at g3
    rw [e4] at g4
    have q0' : c0 = .int .i64 z0 := by simpa using q0
    have q1' : c1 = .int .i64 z1 := by simpa using q1
    obtain ⟨A2, d2, xs2, rfl, s2⟩ := ints_in (v := c2) g2
    obtain ⟨A3, d3, xs3, rfl, s3⟩ := leaves_in (v := c3) g3
    obtain ⟨A4, d4, xs4, rfl, s4⟩ := branches_in (v := c4) g4
    subst q0' q1'
    exact ⟨⟨z0, z1, xs2, xs3, xs4⟩, A2, d2, A3, d3, A4, d4, rfl, s2, s3, s4⟩
end
end Go.Proofs.Ytnimlcbgeiajiaa

namespace Go.Proofs.Ytnimlcbgeiajiaa
open Go.RowKit Go.ChangeShapes Go.WideShapes Go.ChangeAt

theorem knob : ownKnob Try.prog.godebug = none := by kernel_rfl
theorem laid_out : laidOutB Try.prog = true := by kernel_rfl

section
variable {H : Type} {enc : TypeId × Value → H} {P : Program}
/-- What a law leaves behind that made memory alone: its arguments read as they did. -/
theorem law_post {f : Func} {s : ChangeSpec} {apart fresh handsOn again : Bool} {W W' : World} {args : Array Value} {v : Value} {ds : List (DataW H)} {before : List MemPlace} (hvars : s.vars = [])
    (hW : DataW.Whole enc P f.params.toList s.vars apart W args.toList ds [] before)
    (hres : ∀ (b : Nat) (sp : Nat → Bool) (hd : Bool), DataW.TrodAll enc P W' b sp hd f.resultTypes.toList (v.resultList f.resultTypes.size) (s.fn H (ds ++ [])).results [])
    (hargs : ∀ sp : Nat → Bool, (∀ p ∈ before, sp p.block = true) → DataW.TrodAll enc P W' 0 sp true f.params.toList args.toList (s.fn H (ds ++ [])).args before) (hsv : (s.fn H (ds ++ [])).vars = [])
    (hb : Below W.heap.size W W')
    (hok : ∀ (j : Nat) (t : TypeId) (r : Value), f.resultTypes[j]? = some t → (v.resultList f.resultTypes.size)[j]? = some r → Value.okWide P W' .any 0 t r) :
    s.post enc P f apart fresh handsOn again W args v W' := by
  have hlt : ∀ p ∈ before, p.block < W.heap.size := fun p hp => hW.lt p hp
  have hold : ∀ p ∈ before, (fun b => decide (b < W.heap.size)) p.block = true := fun p hp => by simpa using hlt p hp
  have hvs : ∀ sp : Nat → Bool, DataW.TrodVars enc P W' sp s.vars (s.fn H (ds ++ [])).vars [] := fun sp => by rw [hvars, hsv]; rfl
  refine ⟨ds, [], before, [], before, [], hW, hres _ _ _, hargs _ hold, hvs _, World.keptBut_mono (fun p hp => ⟨hp, ?_⟩) (hb.frame (· ∈ before)), fun _ => ?_⟩
  · exact Or.inr (Or.inl hp)
  · obtain ⟨_, _, _, _, _, hz, hn⟩ := hW
    refine ⟨hok, _, _, ([] ++ before) ++ [], ⟨[] ++ before, [], trodAll_append (hargs _ (fun _ _ => rfl)) (hres _ _ _), hvs _, rfl, ?_, ?_⟩, ?_⟩
    · intro b off hp
      have hin : MemPlace.cell b off ∈ before := by simpa using hp
      rw [hb.frozen (hlt _ hin)]
      exact hz b off hin
    · intro ha
      simpa using hn ha
    · intro p hp _
      simpa using hp
end

set_option maxRecDepth 100000 in
theorem tv_lifted (os : Os) (started : os.Started) (H : Type) (enc : TypeId × Value → H) :
    ReturnsInHanded {} Try.checked os 3 .any (Rows.treeValidatesSpec.pre6 enc Try.prog Try.f3 Rows.treeValidatesRow.domain false) (Rows.treeValidatesSpec.post enc Try.prog Try.f3 false true false false) := by
  refine returnsInHanded_of_change (C := Try.checked) knob started (by kernel_rfl) Try.func3
    (ChangeSpec.witness6 (enc := enc) (C := Try.checked) false ⟨#[], #[.agg #[.int .i64 0, .int .i64 0, .slice none 0 0, .slice none 0 0, .slice none 0 0]], []⟩ 8 (by kernel_rfl) (by kernel_rfl) (by kernel_rfl) (by kernel_rfl)) ?_
  intro W base args ds gs before hval0 hW hcnd _
  have hval : ∀ (j : Nat) t v, Try.f3.params[j]? = some t → args[j]? = some v → Value.okWide Try.prog W .any base t v := hval0
  have hW' := hW
  obtain ⟨p, q, hA0, hV, rfl, hfz, hnd⟩ := hW
  have hA : DataW.TrodAll enc Try.prog W 0 (fun _ => true) true Try.f3.params.toList args.toList ds p := hA0
  rw [Try.params3] at hA hval
  obtain ⟨v0, d0, rfl, rfl, h0⟩ := trodAll_one hA
  obtain ⟨rfl, rfl⟩ := trodVars_none hV
  obtain ⟨a, ha⟩ := ta_in (hval 0 26 v0 rfl rfl) h0
  simp only [List.append_nil] at hW'
  have hlt := hW'.lt
  refine Calls.ret (lawValidates v0 a W ha) fun v W' ⟨hv, hb⟩ => ?_
  subst hv
  exact ⟨_, rfl, law_post rfl hW' (fun _ _ _ => trodAll_mk1 (shut_bool Try.underlying4 _)) (fun sp hsp => by
    rw [Try.params3]
    exact trodAll_mk1 (WideElems.Trod_stays laid_out (by kernel_rfl) (of_decide_eq_true (by kernel_rfl)) h0 (fun x hx => hb.same (hlt x hx)) hsp)) rfl hb (ok_one (by kernel_rfl) rfl (okWide_bool_mk Try.underlying4 _))⟩

theorem treeValidates_holds : Rows.TreeValidatesSaid :=
  OpenClaim.holds_of_wide 3 Try.f3 rfl rfl rfl rfl rfl rfl rfl ⟨rfl, rfl, rfl, rfl, rfl⟩ rfl rfl rfl rfl rfl (by kernel_rfl) Try.func3 (by kernel_rfl)
    (of_decide_eq_true (by kernel_rfl)) (by unfold Func.isWrapper; first | (rw [if_pos (by decide +kernel)]; kernel_rfl) | (rw [if_neg (by decide +kernel)]; exact ⟨rfl, rfl⟩))
    (fun os started H enc _ => tv_lifted os started H enc)
#print axioms treeValidates_holds
end Go.Proofs.Ytnimlcbgeiajiaa

namespace Go.Proofs.Ytnimlcbgeiajiaa
open Go.RowKit Go.ChangeShapes Go.WideShapes Go.ChangeAt

section
variable {H : Type} {enc : TypeId × Value → H} {w : World} {base : Nat} {spare : Nat → Bool} {held : Bool}
set_option maxRecDepth 100000 in
/-- A shape with labels that comes in. -/
theorem tree_in {r : Go.Reach} {b0 : Nat} {v : Value} {d : DataW H} {p : List MemPlace} (hv : Value.okWide Try.prog w r b0 40 v) (h : DataW.Trod enc Try.prog w base spare held 40 v d p) :
    ∃ A1 c1 A2 c2, ∃ sh lb : List Int, v = .agg #[.slice A1 sh.length c1, .slice A2 lb.length c2] ∧ Sl w w.heap.size 1 encI A1 sh ∧ Sl w w.heap.size 1 encI A2 lb := by
  obtain ⟨cs, rfl, hsz⟩ := okWide_struct Try.underlying40 hv
  obtain ⟨l⟩ := cs
  have hC : Try.prog.cellsOf 40 = 2 := by kernel_rfl
  match l, hsz.trans hC with
  | [c0, c1], _ =>
    obtain ⟨fuel, hf⟩ := h
    obtain ⟨xs, n, _, _, _, hxl, hg⟩ := DataW.trod_struct Try.underlying40 hf
    have hxs : ∀ k, k < 2 → ∃ y, xs[k]? = some y := fun k hk => get_lt (by have : xs.length = 2 := hxl; omega)
    have h22 : Try.prog.cellsOf 22 = 1 := by kernel_rfl
    have g0 : DataW.trod enc Try.prog w base spare held n 22 (([c0, c1].drop 0).take (Try.prog.cellsOf 22)) = xs[0]? := hg 0 _ rfl
    have g1 : DataW.trod enc Try.prog w base spare held n 22 (([c0, c1].drop 1).take (Try.prog.cellsOf 22)) = xs[1]? := hg 1 _ rfl
    rw [h22] at g0 g1
    obtain ⟨y0, e0⟩ := hxs 0 (by omega)
    obtain ⟨y1, e1⟩ := hxs 1 (by omega)
    rw [e0] at g0
    rw [e1] at g1
    obtain ⟨A0, d0, xs0, rfl, s0⟩ := ints_in (v := c0) g0
    obtain ⟨A1, d1, xs1, rfl, s1⟩ := ints_in (v := c1) g1
    exact ⟨A0, d0, A1, d1, xs0, xs1, rfl, s0, s1⟩
end

end Go.Proofs.Ytnimlcbgeiajiaa

namespace Go.Proofs.Ytnimlcbgeiajiaa
open Go.RowKit Go.ChangeShapes Go.WideShapes Go.ChangeAt

set_option maxRecDepth 100000 in
theorem tmrg_lifted (os : Os) (started : os.Started) (H : Type) (enc : TypeId × Value → H) :
    ReturnsInHanded {} Try.checked os 11 .any (Rows.treeMergeContainsSpec.pre6 enc Try.prog Try.f11 Rows.treeMergeContainsRow.domain false) (Rows.treeMergeContainsSpec.post enc Try.prog Try.f11 false true false false) := by
  refine returnsInHanded_of_change (C := Try.checked) knob started (by kernel_rfl) Try.func11
    (ChangeSpec.witness6 (enc := enc) (C := Try.checked) false ⟨#[], #[.agg #[.int .i64 0, .int .i64 0, .slice none 0 0, .slice none 0 0, .slice none 0 0], .int .i64 0, .agg #[.slice none 0 0, .slice none 0 0]], []⟩ 8 (by kernel_rfl) (by kernel_rfl) (by kernel_rfl) (by kernel_rfl)) ?_
  intro W base args ds gs before hval0 hW hcnd _
  have hval : ∀ (j : Nat) t v, Try.f11.params[j]? = some t → args[j]? = some v → Value.okWide Try.prog W .any base t v := hval0
  have hW' := hW
  obtain ⟨p, q, hA0, hV, rfl, hfz, hnd⟩ := hW
  have hA : DataW.TrodAll enc Try.prog W 0 (fun _ => true) true Try.f11.params.toList args.toList ds p := hA0
  rw [Try.params11] at hA hval
  obtain ⟨v0, vd, v1, d0, dd, d1, p0, pd, p1, rfl, rfl, rfl, h0, hd, h1⟩ := trodAll_three hA
  obtain ⟨rfl, rfl⟩ := trodVars_none hV
  obtain ⟨a, ha⟩ := ta_in (hval 0 26 v0 rfl rfl) h0
  obtain ⟨dep, rfl⟩ := okWide_int Try.underlying3 (hval 1 3 vd rfl rfl)
  obtain ⟨A1, c1, A2, c2, sh, lb, rfl, s1, s2⟩ := tree_in (hval 2 40 v1 rfl rfl) h1
  simp only [List.append_nil] at hW'
  have hlt := hW'.lt
  refine Calls.ret (lawMergeC ha s1 s2) fun v W' ⟨hv, hb⟩ => ?_
  subst hv
  exact ⟨_, rfl, law_post rfl hW' (fun _ _ _ => trodAll_mk1 (shut_bool Try.underlying4 _)) (fun sp hsp => by
    rw [Try.params11]
    rw [List.append_assoc] at *
    exact trodAll_mk3 (WideElems.Trod_stays laid_out (by kernel_rfl) (of_decide_eq_true (by kernel_rfl)) h0 (fun x hx => hb.same (hlt x (by simp [hx]))) (fun x hx => hsp x (by simp [hx])))
      (WideElems.Trod_stays laid_out (by kernel_rfl) (of_decide_eq_true (by kernel_rfl)) hd (fun x hx => hb.same (hlt x (by simp [hx]))) (fun x hx => hsp x (by simp [hx])))
      (WideElems.Trod_stays laid_out (by kernel_rfl) (of_decide_eq_true (by kernel_rfl)) h1 (fun x hx => hb.same (hlt x (by simp [hx]))) (fun x hx => hsp x (by simp [hx])))) rfl hb (ok_one (by kernel_rfl) rfl (okWide_bool_mk Try.underlying4 _))⟩

theorem treeMergeContains_holds : Rows.TreeMergeContainsSaid :=
  OpenClaim.holds_of_wide 11 Try.f11 rfl rfl rfl rfl rfl rfl rfl ⟨rfl, rfl, rfl, rfl, rfl⟩ rfl rfl rfl rfl rfl (by kernel_rfl) Try.func11 (by kernel_rfl)
    (of_decide_eq_true (by kernel_rfl)) (by unfold Func.isWrapper; first | (rw [if_pos (by decide +kernel)]; kernel_rfl) | (rw [if_neg (by decide +kernel)]; exact ⟨rfl, rfl⟩))
    (fun os started H enc _ => tmrg_lifted os started H enc)
#print axioms treeMergeContains_holds
end Go.Proofs.Ytnimlcbgeiajiaa
