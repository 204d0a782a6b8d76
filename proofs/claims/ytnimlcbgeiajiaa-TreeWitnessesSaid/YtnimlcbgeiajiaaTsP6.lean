/-
  TreeWitnesses: for every automaton, Witness of the program returns a tree that the document accepts and that has as few nodes as the document says, or none where there is none, or the error for large ones. No condition.
  A shape with labels that comes in.
  TreeValidates: for every automaton, the program's Validate and the document's give the same error, and the program knows its small tree and automaton. No condition.
  Arguments that come in: an automaton by value reads as data; what a law leaves behind.
  TreeValidates: the walk of the law.
  The law TreeWitnesses: the walk.
  The reference's Fewest: the rounds, the best, the whole function.
  The reference's Fewest: the walk.
  The law TreeWitnessLeast: the walk.
  The canonical automaton as an automaton: it is valid, has the same language, is not large, and is its own canonical automaton. Plain Lean, and its memory.
  The reference's Accepts, long, and the law TreeAccepts: the walks.
  The reference's accepts and Accepts: the walks.
  The reference's accepts: marks and words say the same (plain), and the walk.
-/
import Derived.ProofKit
import Derived.Deep.Slices
import Derived.Deep.Fields
import Derived.Test.YtnimlcbgeiajiaaTsP5

namespace Go.Proofs.Ytnimlcbgeiajiaa
open Go.RowKit

/-- Marks and a word say the same of all states. -/
def SameM (S : Nat) (m : List Bool) (M : Nat) : Prop := m.length = S ∧ ∀ q, q < S → m[q]?.getD false = M.testBit q
theorem SameM.zero (S : Nat) : SameM S (List.replicate S false) 0 := ⟨by simp, fun q hq => by simp [hq]⟩
theorem SameM.set {S : Nat} {m : List Bool} {M : Nat} (h : SameM S m M) {q : Int} (h0 : 0 ≤ q) (hq : q < S) : SameM S (setM m q) (setB M q) := by
  obtain ⟨q, rfl⟩ := Int.eq_ofNat_of_zero_le h0
  refine ⟨by rw [setM_len]; exact h.1, fun j hj => ?_⟩
  simp only [setM, setB, mOr, mPow, Int.toNat_natCast]
  rw [Nat.testBit_or, Nat.testBit_two_pow, List.getElem?_set]
  by_cases e : q = j
  · subst e
    simp [h.1, hj]
  · simp [e, h.2 j hj]
theorem SameM.bit {S : Nat} {m : List Bool} {M : Nat} (h : SameM S m M) {q : Int} (h0 : 0 ≤ q) (hq : q < S) : bitM m q = mBit M q := h.2 q.toNat (by omega)
theorem sameM_leaf {S : Nat} (x : Nat) : ∀ (l : List Leaf) (m : List Bool) (M : Nat), SameM S m M → (∀ e ∈ l, 0 ≤ e.to ∧ e.to < S) → SameM S (l.foldl (leafF x) m) (l.foldl (leafMF x) M)
  | [], _, _, h, _ => h
  | e :: l, m, M, h, hl => by
    refine sameM_leaf x l _ _ ?_ (fun e' he' => hl e' (List.mem_cons_of_mem _ he'))
    have := hl e List.mem_cons_self
    by_cases hx : e.letter = (x : Int)
    · simp only [leafF, leafMF, hx, if_true]
      exact h.set this.1 this.2
    · simp only [leafF, leafMF, hx, if_false]
      exact h
theorem sameM_br {S : Nat} (x : Nat) {s t : List Bool} {s' t' : Nat} (hs : SameM S s s') (ht : SameM S t t') : ∀ (l : List Branch) (m : List Bool) (M : Nat), SameM S m M →
    (∀ e ∈ l, (0 ≤ e.first ∧ e.first < S) ∧ (0 ≤ e.second ∧ e.second < S) ∧ (0 ≤ e.to ∧ e.to < S)) → SameM S (l.foldl (brF x s t) m) (l.foldl (brMF x s' t') M)
  | [], _, _, h, _ => h
  | e :: l, m, M, h, hl => by
    refine sameM_br x hs ht l _ _ ?_ (fun e' he' => hl e' (List.mem_cons_of_mem _ he'))
    obtain ⟨⟨h1, h2⟩, ⟨h3, h4⟩, h5, h6⟩ := hl e List.mem_cons_self
    simp only [brF, brMF, hs.bit h1 h2, ht.bit h3 h4]
    split
    · exact h.set h5 h6
    · exact h

def TA.marks (a : TA) (t : Tr) : List Bool := runT (leafR a.states.toNat a.leaves) (brR a.states.toNat a.branches) t
theorem TA.same_marks {a : TA} (hv : a.valid = true) (t : Tr) : SameM a.states.toNat (a.marks t) (a.mask t) := by
  simp only [TA.valid, TA.head, Bool.and_eq_true, decide_eq_true_eq] at hv
  obtain ⟨⟨⟨⟨⟨⟨-, -⟩, h3⟩, -⟩, -⟩, h6⟩, h7⟩ := hv
  have hl : ∀ e ∈ a.leaves, 0 ≤ e.to ∧ e.to < (a.states.toNat : Int) := fun e he => by
    have := List.all_eq_true.1 h6 e he
    simp only [okLeaf, inR, Bool.and_eq_true, decide_eq_true_eq] at this
    omega
  have hb : ∀ e ∈ a.branches, (0 ≤ e.first ∧ e.first < (a.states.toNat : Int)) ∧ (0 ≤ e.second ∧ e.second < (a.states.toNat : Int)) ∧ (0 ≤ e.to ∧ e.to < (a.states.toNat : Int)) := fun e he => by
    have := List.all_eq_true.1 h7 e he
    simp only [okBranch, inR, Bool.and_eq_true, decide_eq_true_eq] at this
    omega
  induction t with
  | leaf x => exact sameM_leaf x a.leaves _ _ (SameM.zero _) hl
  | node x s t ihs iht =>
    have := sameM_br x ihs iht a.branches _ _ (SameM.zero _) hb
    have e : a.mask (.node x s t) = a.branches.foldl (brMF x (a.mask s) (a.mask t)) 0 := by
      show brM _ _ _ = _
      unfold brM
      rw [brM_filter]
      rfl
    rw [e]
    exact this
theorem any_eq {l : List Int} {f g : Int → Bool} (h : ∀ q ∈ l, f q = g q) : l.any f = l.any g := by
  induction l with
  | nil => rfl
  | cons q l ih => rw [List.any_cons, List.any_cons, h q List.mem_cons_self, ih fun q' hq' => h q' (List.mem_cons_of_mem _ hq')]
theorem TA.lang_marks {a : TA} (hv : a.valid = true) (t : Tr) : meetsR a.accept (a.marks t) = a.lang t := by
  have h := TA.same_marks hv t
  obtain ⟨-, -, h3, -, h5, h6, -, -⟩ := TA.valid_parts hv
  have : a.lang t = a.accept.any (mBit (a.mask t)) := accS_any a _ fun q hq => (h6 q hq).1
  rw [this]
  refine any_eq fun q hq => ?_
  have := List.all_eq_true.1 h5 q hq
  simp only [inR, Bool.and_eq_true, decide_eq_true_eq] at this
  exact h.bit this.1 (by omega)

/-- The marks of the subtrees that wait, in memory. -/
structure KeptM (w : World) (base : Nat) (a : TA) (kk : Value) (us : List Value) (s : List Tr) : Prop where
  own : w.ownsRow base 79 1 kk s.length us
  row : ∀ (i : Nat) (u : Value) (t : Tr), us[i]? = some u → s.reverse[i]? = some t → Marks w w.heap.size a.states.toNat u (a.marks t)
theorem KeptM.len {w : World} {base : Nat} {a : TA} {kk : Value} {us : List Value} {s : List Tr} (h : KeptM w base a kk us s) : us.length = s.length := by simpa using h.own.1
theorem KeptM.keep {w w' : World} {base : Nat} {a : TA} {kk : Value} {us : List Value} {s : List Tr} (h : KeptM w base a kk us s) (hk : Kept w w' (fun _ => False)) : KeptM w' base a kk us s :=
  ⟨hk.ownsRow h.own (fun _ _ => id), fun i u t hu ht => ((h.row i u t hu ht).keep0 hk).mono hk.size⟩
theorem KeptM.push {w w' : World} {base : Nat} {a : TA} {kk kk' u : Value} {us : List Value} {s : List Tr} {t : Tr} (h : KeptM w base a kk us s) (hu : Marks w w.heap.size a.states.toNat u (a.marks t)) (hk : Kept w w' (fun k => kk.ownBlock = some k)) (hown : w'.ownsRow base 79 1 kk' (s.length + 1) (us ++ [u])) : KeptM w' base a kk' (us ++ [u]) (t :: s) := by
  have hX : ∀ g cs, kk.ownBlock = some g → g < w.heap.size → ¬ Blk w g 4 cs := fun g cs hx _ hb => own_blk_ne h.own hb (by decide) hx
  refine ⟨by simpa using hown, fun i u' t' hu' ht' => ?_⟩
  rw [List.reverse_cons] at ht'
  rcases Nat.lt_trichotomy i s.length with hlt | heq | hgt
  · rw [List.getElem?_append_left (by rw [h.len]; exact hlt)] at hu'
    rw [List.getElem?_append_left (by simpa using hlt)] at ht'
    exact ((h.row i u' t' hu' ht').keep hk hX).mono hk.size
  · rw [List.getElem?_append_right (by rw [h.len]; omega), h.len, heq, Nat.sub_self] at hu'
    rw [List.getElem?_append_right (by simp; omega), List.length_reverse, heq, Nat.sub_self] at ht'
    have e1 := Option.some.inj hu'
    have e2 := Option.some.inj ht'
    subst e1 e2
    exact (hu.keep hk hX).mono hk.size
  · rw [List.getElem?_eq_none (by simp; omega)] at ht'
    cases ht'
theorem KeptM.pop2 {w : World} {base : Nat} {a : TA} {g cap : Nat} {us : List Value} {t1 t2 : Tr} {r : List Tr} (h : KeptM w base a (.slice (some ⟨g, 0, none⟩) (r.length + 1 + 1) cap) us (t1 :: t2 :: r)) : KeptM w base a (.slice (some ⟨g, 0, none⟩) r.length cap) (us.take r.length) r := by
  refine ⟨by simpa using own_shrink (m := r.length) h.own (by omega), fun i u t hu ht => ?_⟩
  have hi : i < r.length := by have := lt_of_get ht; simpa using this
  refine h.row i u t ?_ ?_
  · rw [List.getElem?_take] at hu
    simpa [hi] using hu
  · simp only [List.reverse_cons, List.append_assoc]
    rw [List.getElem?_append_left (by simpa using hi)]
    exact ht
theorem KeptM.top {w : World} {base : Nat} {a : TA} {kk : Value} {us : List Value} {t1 t2 : Tr} {r : List Tr} (h : KeptM w base a kk us (t1 :: t2 :: r)) :
    ∃ u1 u2, us[r.length + 1]? = some u1 ∧ us[r.length]? = some u2 ∧ Marks w w.heap.size a.states.toNat u1 (a.marks t1) ∧ Marks w w.heap.size a.states.toNat u2 (a.marks t2) := by
  have hl := h.len
  obtain ⟨u1, hu1⟩ := get_lt (l := us) (i := r.length + 1) (by simp at hl; omega)
  obtain ⟨u2, hu2⟩ := get_lt (l := us) (i := r.length) (by simp at hl; omega)
  refine ⟨u1, u2, hu1, hu2, h.row _ _ _ hu1 ?_, h.row _ _ _ hu2 ?_⟩
  · simp
  · simp

end Go.Proofs.Ytnimlcbgeiajiaa

namespace Go.Proofs.Ytnimlcbgeiajiaa
open Go.RowKit

set_option maxHeartbeats 8000000 in
set_option maxRecDepth 100000 in
theorem refaccepts_any {v : Value} {a : TA} {w : World} {B1 B2 c1' c2' : Nat} {D1 D2 : Option Addr} {sh lb : List Int} (h : IsTA w w.heap.size v a) (hs : Sl w B1 1 encI D1 sh) (hl : Sl w B2 1 encI D2 lb) (hB1 : B1 ≤ w.heap.size) (hB2 : B2 ≤ w.heap.size)
    (hv : a.valid = true) (hvt : validT a.letters sh lb = true) :
    Calls Try.prog 56 #[v, .slice D1 sh.length c1', .slice D2 lb.length c2'] w (Ret fun r w' => r = .bool (a.lang (treeOf sh lb)) ∧ Below w.heap.size w w') := by
  obtain ⟨A1, c1, A2, c2, A3, c3, rfl, h1, h2, h3⟩ := h
  obtain ⟨w1, hw1, hb1, hB, hk1⟩ := box_blk w #[.int .i64 a.letters, .int .i64 a.states, .slice A1 a.accept.length c1, .slice A2 a.leaves.length c2, .slice A3 a.branches.length c3] 26
  have hsz := hb1.size
  have hT : IsTA w1 w1.heap.size (.agg #[.int .i64 a.letters, .int .i64 a.states, .slice A1 a.accept.length c1, .slice A2 a.leaves.length c2, .slice A3 a.branches.length c3]) a :=
    ⟨A1, c1, A2, c2, A3, c3, rfl, (h1.below hb1).mono hsz, (h2.below hb1).mono hsz, (h3.below hb1).mono hsz⟩
  have hHT := hide hT
  have hn1 := h1.1
  have hns := hs.1
  have hnl := hl.1
  clear hT
  have hV := hide hv
  clear hv
  obtain ⟨hst, hok, hlen, hn1', hn2'⟩ := validT_tree hvt
  have hgo : vtGo a.letters 1 sh lb = true := by
    simp only [validT, Bool.and_eq_true] at hvt
    exact hvt.2
  have hST := hide hst
  have hGO := hide hgo
  have hLEN := hide hlen
  clear hvt hst hgo hlen
  obtain ⟨hL1, hL8, hS0, hS64, hacc, -, -, -⟩ := TA.valid_parts hV.out
  have hACC := hide hacc
  clear hacc
  go_enter Try.func56, Try.ntmps56
  go_wp2_with fail
  go_loopw [7, 8] (fun kk ii wr => ∃ (i : Nat) (s : List Tr) (us : List Value), ii = .int .i64 ((i : Int) - 1) ∧ i ≤ sh.length ∧ Hid (stk (sh.drop i) (lb.drop i) = some s) ∧ Hid (KeptM wr w1.heap.size a kk us s) ∧ Hid (i + s.length ≤ sh.length + 1) ∧ Below w1.heap.size w1 wr) (fun _ ii _ => (intOf ii + 1).toNat)
  case atStart => exact ⟨sh.length, [], [], rfl, Nat.le_refl _, stk_nil_at (Nat.le_refl _), ⟨own_nil, fun i u t h => by simp at h⟩, Nat.le_succ _, Below.refl _ _⟩
  case round =>
    obtain ⟨i, s, us, rfl, hi, hs3, hown, hsl, hbr⟩ := hrel
    have hBr := hB.kept (Kept.of_below hbr (fun _ => False)) id
    have hcbr := hBr.cell
    have hszr := hbr.size
    obtain ⟨A, c, rfl⟩ := slice_of_own hown.out.own
    have hszd : wr.drew.heap.size = wr.heap.size := rfl
    have hownd := hide (hown.out.keep (Kept.refl wr (fun _ => False)).drew)
    by_cases hlt : 0 < i
    · obtain ⟨k, rfl⟩ : ∃ k, i = k + 1 := ⟨i - 1, by omega⟩
      rw [show (((k + 1 : Nat) : Int) - 1) = (k : Int) from by omega]
      obtain ⟨cd, l, s', hc, hl', hl0, hs', hcase⟩ := stk_at sh lb 1 (by omega) hGO.out k (by omega)
      have hss : s' = s := by
        have := hs3.out
        rw [hs'] at this
        exact Option.some.inj this
      subst hss
      obtain ⟨x, rfl⟩ := Int.eq_ofNat_of_zero_le hl0
      simp only [Int.toNat_natCast] at hcase
      obtain ⟨b1, o1, c', rfl, hb1', hc', hcc⟩ := hs.at (k := k) (by omega)
      obtain ⟨b2, o2, l', rfl, hb2', hl'', hlc⟩ := hl.at (k := k) (by rw [hLEN.out]; omega)
      rw [hc] at hc'
      rw [hl'] at hl''
      injection hc' with hc'
      injection hl'' with hl''
      subst hc' hl''
      have hc0 := (hbr.cell (by show b1 < _; omega)).trans ((hb1.cell (by show b1 < _; omega)).trans (hcc 0 (by omega)))
      have hl0' := (hbr.cell (by show b2 < _; omega)).trans ((hb1.cell (by show b2 < _; omega)).trans (hlc 0 (by omega)))
      simp only [Nat.mul_one, Nat.add_zero, encI] at hc0 hl0'
      have hTr : IsTA wr.drew wr.drew.heap.size (.agg #[.int .i64 a.letters, .int .i64 a.states, .slice A1 a.accept.length c1, .slice A2 a.leaves.length c2, .slice A3 a.branches.length c3]) a := hHT.out.keep (fun _ hp => hbr.drew.cell hp) hszr
      have hTR := hide hTr
      have hkl := hLEN.out
      have hKL := hide hkl
      have hklb : k < lb.length := by omega
      clear hc hl' hs' hcc hlc hl0 hTr hs3 hkl
      have hcount := hsl.out
      rcases hcase with ⟨rfl, hnext⟩ | ⟨rfl, t1, t2, r, rfl, hnext⟩
      · have hNX := hide hnext
        clear hnext
        go_wp2_with fail
        refine Reg.region_plain [0, 0, 0, 0, 12, 28, 62, 126, 255, 511] (by kernel_rfl) (by repeat (first | exact Reg.NoQ.body (fun _ _ h => h) (fun _ h => h) | refine Reg.NoQ.then ?_ | refine Reg.NoQ.inBlock ?_)) ?_
        go_wp2_with (first | (go_at_call 81; refine Calls.ret (refLeaf_any _ a _ x hTR.out hV.out) ?_; rintro v w3 ⟨hb3, hM⟩; have hM3 := hide hM; have hb33 := hide hb3; have hsz3 := hb3.size; have hbase3 : w1.heap.size ≤ w3.heap.size := by omega
                              have hK3 := hide (hownd.out.keep (Kept.of_below hb3 (fun _ => False))); obtain ⟨gv, -, rfl, -, -⟩ := hM; clear hb3) | (at_builtin; refine wpList_app_new row111 rfl _ _ rfl w1.heap.size (.slice A s'.length c) s'.length _ rfl hK3.out.own [.slice (some ⟨gv, 0, none⟩) a.states.toNat a.states.toNat] 1 rfl rfl (by simp [Value.oneCell']) (by omega) hbase3 ?_; intro g cap' w4 hown4 hk4 hmv4 hg4))
        refine ⟨⟨k, .leaf x :: s', us ++ [.slice (some ⟨gv, 0, none⟩) a.states.toNat a.states.toNat], by go_num, by omega, hNX.out, ?_, by show _ ≤ _; simp; omega, ?_⟩, by simp [intOf]⟩
        · exact hK3.out.push hM3.out hk4 hown4
        · refine (hbr.drew.trans (hb33.out.mono hszr)).trans (hk4.below hbase3 (fun b hb e => ?_))
          have := own_base hK3.out.own e
          omega
      · have hNX := hide hnext
        clear hnext
        simp only [List.length_cons] at *
        obtain ⟨u1, u2, hu1, hu2, hM1, hM2⟩ := hownd.out.top
        obtain ⟨g, cap, hv1, hcl1⟩ := own_get hown.out.own hu1
        obtain ⟨g', cap', hv2, hcl2⟩ := own_get hown.out.own hu2
        injection hv1 with hv1 hv1l hv1c
        injection hv2 with hv2 hv2l hv2c
        subst hv1 hv1c hv2c
        injection hv2 with hv2
        injection hv2 with hv2
        subst hv2
        clear hv1l hv2l
        have hcap := own_cap hown.out.own
        have hMM1 := hide hM1
        have hMM2 := hide hM2
        obtain ⟨gu1, -, rfl, -, -⟩ := hM1
        obtain ⟨gu2, -, rfl, -, -⟩ := hM2
        clear hu1 hu2
        go_wp2_with fail
        refine Reg.region_ints' [0, 0, 0, 6, 14, 0, 0, 64, 224, 480, 0, 0, 2048, 7168, 15360, 32767, 65535] (by kernel_rfl) (by repeat (first | exact Reg.NoQ.body (fun _ _ h => h) (fun _ h => h) | refine Reg.NoQ.then ?_ | refine Reg.NoQ.inBlock ?_)) ?_
        intro Qf hQf
        go_wp2_with (go_at_call 82; refine Calls.ret (refBranch_any _ _ _ a _ _ _ x _ _ hTR.out hV.out hMM1.out hMM2.out) ?_; rintro v w3 ⟨hb3, hM⟩; have hM3 := hide hM; have hb33 := hide hb3; have hsz3 := hb3.size; have hbase3 : w1.heap.size ≤ w3.heap.size := by omega
                     have hK3 := hide (hownd.out.keep (Kept.of_below hb3 (fun _ => False))); obtain ⟨gv, -, rfl, -, -⟩ := hM; clear hb3)
        refine ⟨rfl, ?_⟩
        have hK5 := hide hK3.out.pop2
        go_wp2_with (at_builtin; refine wpList_app_new row111 rfl _ _ rfl w1.heap.size (.slice (some ⟨g, 0, none⟩) r.length c) r.length _ rfl hK5.out.own [.slice (some ⟨gv, 0, none⟩) a.states.toNat a.states.toNat] 1 rfl rfl (by simp [Value.oneCell']) (by omega) hbase3 ?_; intro g2 cap' w4 hown4 hk4 hmv4 hg4)
        refine ⟨⟨k, .node x t1 t2 :: r, us.take r.length ++ [.slice (some ⟨gv, 0, none⟩) a.states.toNat a.states.toNat], by go_num, by omega, hNX.out, ?_, by show _ ≤ _; simp; omega, ?_⟩, by simp [intOf]⟩
        · exact hK5.out.push hM3.out hk4 hown4
        · refine (hbr.drew.trans (hb33.out.mono hszr)).trans (hk4.below hbase3 (fun b hb e => ?_))
          have := own_base hK5.out.own e
          omega
    · have hi0 : i = 0 := by omega
      subst hi0
      rw [show (((0 : Nat) : Int) - 1) = -1 from rfl]
      have hs4 : s = [treeOf sh lb] := by
        have := hs3.out
        rw [List.drop_zero, List.drop_zero, hST.out] at this
        exact (Option.some.inj this).symm
      subst hs4
      obtain ⟨u, hu⟩ := get_lt (l := us) (i := 0) (by rw [hown.out.len]; simp)
      have hMd := hide (hownd.out.row 0 u (treeOf sh lb) hu (by simp))
      obtain ⟨g, cap, hv1, hcl⟩ := own_get hown.out.own hu
      injection hv1 with hv1 _ hv1c
      subst hv1 hv1c
      obtain ⟨gu, -, rfl, -, -⟩ := hMd.out
      have hbW := hide (hb1.trans (hbr.drew.mono hsz))
      have hSa := hide ((h1.below hbW.out).mono (B' := wr.drew.heap.size) (by omega))
      have hS' : (a.states.toNat : Int) = a.states := by omega
      have hACC' := hACC.out
      rw [← hS'] at hACC'
      have hAC := hide hACC'
      clear hs3 hown hsl hownd hu hACC'
      go_wp2_with fail
      refine Reg.region_plain [0, 1, 3, 0, 8, 31, 63] (by kernel_rfl) (by repeat (first | exact Reg.NoQ.body (fun _ _ h => h) (fun _ h => h) | refine Reg.NoQ.then ?_ | refine Reg.NoQ.inBlock ?_)) ?_
      go_wp2_with (go_at_call 83; refine (refMeets_any hMd.out hSa.out hAC.out).mono ?_; rintro e w3 ⟨rfl, rfl⟩; rw [TA.lang_marks hV.out])
      go_ret
      exact ⟨rfl, hbW.out⟩
end Go.Proofs.Ytnimlcbgeiajiaa

namespace Go.Proofs.Ytnimlcbgeiajiaa
open Go.RowKit

set_option maxHeartbeats 8000000 in
set_option maxRecDepth 100000 in
theorem refAccepts_any {v : Value} {a : TA} {w : World} {B1 B2 c1' c2' : Nat} {D1 D2 : Option Addr} {sh lb : List Int} (h : IsTA w w.heap.size v a) (hs : Sl w B1 1 encI D1 sh) (hl : Sl w B2 1 encI D2 lb) (hB1 : B1 ≤ w.heap.size) (hB2 : B2 ≤ w.heap.size) :
    Calls Try.prog 29 #[v, .slice D1 sh.length c1', .slice D2 lb.length c2'] w (Ret fun r w' => r = accT a sh lb ∧ Below w.heap.size w w') := by
  obtain ⟨A1, c1, A2, c2, A3, c3, rfl, h1, h2, h3⟩ := h
  obtain ⟨w1, hw1, hb1, hB, hk1⟩ := box_blk w #[.int .i64 a.letters, .int .i64 a.states, .slice A1 a.accept.length c1, .slice A2 a.leaves.length c2, .slice A3 a.branches.length c3] 26
  have hsz := hb1.size
  have hT : IsTA w1 w1.heap.size (.agg #[.int .i64 a.letters, .int .i64 a.states, .slice A1 a.accept.length c1, .slice A2 a.leaves.length c2, .slice A3 a.branches.length c3]) a :=
    ⟨A1, c1, A2, c2, A3, c3, rfl, (h1.below hb1).mono hsz, (h2.below hb1).mono hsz, (h3.below hb1).mono hsz⟩
  have hHT := hide hT
  have hcb := hB.cell
  clear hT
  cases hv : a.valid
  · have hV := hide hv
    clear hv
    have he : Hid (accT a sh lb = .tuple #[.bool false, .int .i64 1]) := by show _ = _; simp [accT, hV.out]
    go_enter Try.func29, Try.ntmps29
    go_wp2_with (go_at_call 19; refine (refValidate_any _ _ _ hHT.out).mono ?_; rintro e w2 ⟨rfl, hb⟩; rw [hV.out]; simp only [errno]; have hb2 := hide hb; clear hb)
    go_ret2
    exact ⟨he.out.symm, hb1.trans (hb2.out.mono hsz)⟩
  · have hV := hide hv
    clear hv
    obtain ⟨hL1, hL8, -, -, -, -, -, -⟩ := TA.valid_parts hV.out
    cases hvt : validT a.letters sh lb
    · have hVT := hide hvt
      clear hvt
      have he : Hid (accT a sh lb = .tuple #[.bool false, .int .i64 1]) := by show _ = _; simp [accT, hVT.out]
      go_enter Try.func29, Try.ntmps29
      go_wp2_with (first | (go_at_call 19; refine (refValidate_any _ _ _ hHT.out).mono ?_; rintro e w2 ⟨rfl, hb⟩; rw [hV.out]; simp only [errno]; have hb2 := hide hb; have hcb2 := (hB.kept (Kept.of_below hb (fun _ => False)) id).cell; have hs2 := hide ((hs.mono hB1).below (hb1.trans (hb.mono hsz))); have hl2 := hide ((hl.mono hB2).below (hb1.trans (hb.mono hsz))); clear hb) | (go_at_call 55; refine (refValidTree_any hs2.out hl2.out ⟨hL1, hL8⟩).mono ?_; rintro e w3 ⟨rfl, rfl⟩; rw [hVT.out]))
      go_ret2
      exact ⟨he.out.symm, hb1.trans (hb2.out.mono hsz)⟩
    · have hVT := hide hvt
      clear hvt
      have he : Hid (accT a sh lb = .tuple #[.bool (a.lang (treeOf sh lb)), .int .i64 0]) := by show _ = _; simp [accT, hV.out, hVT.out]
      go_enter Try.func29, Try.ntmps29
      go_wp2_with (first | (go_at_call 19; refine (refValidate_any _ _ _ hHT.out).mono ?_; rintro e w2 ⟨rfl, hb⟩; rw [hV.out]; simp only [errno]; have hb2 := hide hb; have hsz2 := hb.size; have hT2 := hide (hHT.out.keep (fun _ hp => hb.cell hp) hsz2); have hcb2 := (hB.kept (Kept.of_below hb (fun _ => False)) id).cell; have hs2 := hide ((hs.mono hB1).below (hb1.trans (hb.mono hsz))); have hl2 := hide ((hl.mono hB2).below (hb1.trans (hb.mono hsz))); clear hb) | (go_at_call 55; refine (refValidTree_any hs2.out hl2.out ⟨hL1, hL8⟩).mono ?_; rintro e w3 ⟨rfl, rfl⟩; rw [hVT.out])
                         | (go_at_call 56; refine Calls.ret (refaccepts_any hT2.out hs2.out hl2.out (by omega) (by omega) hV.out hVT.out) ?_; rintro v w4 ⟨rfl, hb4⟩; have hb44 := hide hb4; clear hb4))
      go_ret2
      exact ⟨he.out.symm, (hb1.trans (hb2.out.mono hsz)).trans (hb44.out.mono (by omega))⟩

set_option maxHeartbeats 4000000 in
theorem long_any {w : World} {B1 B2 c1 c2 : Nat} {A1 A2 : Option Addr} {sh lb : List Int} (h1 : Sl w B1 1 encI A1 sh) (h2 : Sl w B2 1 encI A2 lb) :
    Calls Try.prog 27 #[.agg #[.slice A1 sh.length c1, .slice A2 lb.length c2]] w (Ret fun r w' => r = .bool (decide (60 < sh.length) || decide (60 < lb.length)) ∧ Below w.heap.size w w') := by
  have hn1 := h1.1
  have hn2 := h2.1
  clear h1 h2
  by_cases hs : 60 < sh.length
  · go_enter Try.func27, Try.ntmps27
    go_wp2_with fail
    go_ret
    exact ⟨by simp, (Below.refl _ _).alloc (Nat.le_refl _) _⟩
  · by_cases hl : 60 < lb.length
    · go_enter Try.func27, Try.ntmps27
      go_wp2_with fail
      go_ret
      exact ⟨by simp [hl]; omega, (Below.refl _ _).alloc (Nat.le_refl _) _⟩
    · go_enter Try.func27, Try.ntmps27
      go_wp2_with fail
      go_ret
      exact ⟨by simp [hl, hs]; omega, (Below.refl _ _).alloc (Nat.le_refl _) _⟩

set_option maxHeartbeats 8000000 in
set_option maxRecDepth 100000 in
theorem lawAccepts {v : Value} {a : TA} {w : World} {c1' c2' : Nat} {D1 D2 : Option Addr} {sh lb : List Int} (h : IsTA w w.heap.size v a) (hs : Sl w w.heap.size 1 encI D1 sh) (hl : Sl w w.heap.size 1 encI D2 lb) :
    Calls Try.prog 6 #[v, .agg #[.slice D1 sh.length c1', .slice D2 lb.length c2']] w (Ret fun v w' => v = .bool true ∧ Below w.heap.size w w') := by
  obtain ⟨A1, c1, A2, c2, A3, c3, rfl, h1, h2, h3⟩ := h
  obtain ⟨w1, hw1, hb1, hB1, hk1⟩ := box_blk w #[.int .i64 a.letters, .int .i64 a.states, .slice A1 a.accept.length c1, .slice A2 a.leaves.length c2, .slice A3 a.branches.length c3] 26
  obtain ⟨w2, hw2, hb2, hB2, hk2⟩ := box_blk w1 #[.slice D1 sh.length c1', .slice D2 lb.length c2'] 40
  have hsz1 := hb1.size
  have hsz2 := hb2.size
  have hb02 := hb1.trans (hb2.mono hsz1)
  have hB12 := hB1.kept hk2 id
  have hcb1 := hB12.cell
  have hcb2 := hB2.cell
  have hT : IsTA w2 w2.heap.size (.agg #[.int .i64 a.letters, .int .i64 a.states, .slice A1 a.accept.length c1, .slice A2 a.leaves.length c2, .slice A3 a.branches.length c3]) a :=
    IsTA.keep ⟨A1, c1, A2, c2, A3, c3, rfl, h1, h2, h3⟩ (fun _ hp => hb02.cell hp) (by omega)
  have hTT := hide hT
  have hs2 := hide ((hs.below hb02).mono (B' := w2.heap.size) (by omega))
  have hl2 := hide ((hl.below hb02).mono (B' := w2.heap.size) (by omega))
  have hns := hs.1
  have hnl := hl.1
  clear hT h1 h2 h3
  go_enter Try.func6, Try.ntmps6
  go_wp2_with fail
  refine (Big_any _ a w2 hTT.out).mono ?_
  rintro e w3 ⟨rfl, hb3⟩
  have hb03 : Below w.heap.size w w3 := hb02.trans (hb3.mono (by omega))
  have hcb3 := (hB12.kept (Kept.of_below hb3 (fun _ => False)) id).cell
  have hB23 := hB2.kept (Kept.of_below hb3 (fun _ => False)) id
  have hdb3 := hB23.cell
  have hsz3 := hb3.size
  cases hbig : a.big with
  | true =>
    go_wp2_with fail
    refine Calls.ret (known_any w3) ?_
    rintro v w4 ⟨rfl, hb4⟩
    have hb04 := hide (hb03.trans (hb4.mono (by omega)))
    clear hb4
    go_wp2_with fail
    go_ret
    exact ⟨rfl, hb04.out⟩
  | false =>
    have hs3 := hide ((hs2.out.below hb3).mono hsz3)
    have hl3 := hide ((hl2.out.below hb3).mono hsz3)
    have hT3 := hide (hTT.out.keep (fun _ hp => hb3.cell hp) hsz3)
    go_wp2_with fail
    refine Calls.ret (long_any hs3.out hl3.out) ?_
    rintro v w4 ⟨rfl, hb4⟩
    have hb04 : Below w.heap.size w w4 := hb03.trans (hb4.mono (by omega))
    have hsz4 := hb4.size
    have hcb4 := ((hB12.kept (Kept.of_below hb3 (fun _ => False)) id).kept (Kept.of_below hb4 (fun _ => False)) id).cell
    have hB24 := hB23.kept (Kept.of_below hb4 (fun _ => False)) id
    have hdb4 := hB24.cell
    cases hlong : (decide (60 < sh.length) || decide (60 < lb.length)) with
    | true =>
      go_wp2_with fail
      refine Calls.ret (known_any w4) ?_
      rintro v w5 ⟨rfl, hb5⟩
      have hb05 := hide (hb04.trans (hb5.mono (by omega)))
      clear hb5
      go_wp2_with fail
      go_ret
      exact ⟨rfl, hb05.out⟩
    | false =>
      have hs4 := hide ((hs3.out.below hb4).mono hsz4)
      have hl4 := hide ((hl3.out.below hb4).mono hsz4)
      have hT4 := hide (hT3.out.keep (fun _ hp => hb4.cell hp) hsz4)
      clear hlong
      go_wp2_with fail
      refine Calls.ret (accepts_any hT4.out hs4.out hl4.out (Nat.le_refl _) (Nat.le_refl _)) ?_
      rintro v w5 ⟨rfl, hb5⟩
      have hb05 : Below w.heap.size w w5 := hb04.trans (hb5.mono (by omega))
      have hsz5 := hb5.size
      have hcb5 := (((hB12.kept (Kept.of_below hb3 (fun _ => False)) id).kept (Kept.of_below hb4 (fun _ => False)) id).kept (Kept.of_below hb5 (fun _ => False)) id).cell
      have hB25 := hB24.kept (Kept.of_below hb5 (fun _ => False)) id
      have hdb5 := hB25.cell
      have hs5 := hide ((hs4.out.below hb5).mono hsz5)
      have hl5 := hide ((hl4.out.below hb5).mono hsz5)
      have hT5 := hide (hT4.out.keep (fun _ hp => hb5.cell hp) hsz5)
      obtain ⟨x, y, hxy⟩ : ∃ x y, accT a sh lb = .tuple #[.bool x, .int .i64 y] := by
        unfold accT
        split
        · exact ⟨_, _, rfl⟩
        · exact ⟨_, _, rfl⟩
      rw [hxy]
      have HXY := hide hxy
      clear hxy
      go_wp2_with fail
      refine Calls.ret (refAccepts_any hT5.out hs5.out hl5.out (Nat.le_refl _) (Nat.le_refl _)) ?_
      rintro v w6 ⟨rfl, hb6⟩
      have hb06 : Below w.heap.size w w6 := hb05.trans (hb6.mono (by omega))
      have hsz6 := hb6.size
      rw [HXY.out]
      have heq1 : (x == x) = true := by simp
      have heq2 : (y == y) = true := by simp
      go_wp2_with fail
      refine Calls.ret (known_any w6) ?_
      rintro v w7 ⟨rfl, hb7⟩
      have hb07 := hide (hb06.trans (hb7.mono (by omega)))
      clear hb7
      go_wp2_with fail
      go_ret
      exact ⟨rfl, hb07.out⟩
end Go.Proofs.Ytnimlcbgeiajiaa

namespace Go.Proofs.Ytnimlcbgeiajiaa
open Go.RowKit

theorem tb_fold {A : Type} {f : A → Int} {c : A → Bool} (r : Nat) : ∀ (l : List A) (m : Nat), (l.foldl (fun m e => if c e = true then setB m (f e) else m) m).testBit r = (m.testBit r || l.any fun e => c e && decide ((f e).toNat = r))
  | [], m => by simp
  | e :: l, m => by
    rw [List.foldl_cons, tb_fold r l, List.any_cons, ← Bool.or_assoc]
    congr 1
    cases hc : c e
    · simp
    · simp [setB, mOr, mPow, Nat.testBit_or, Nat.testBit_two_pow]

theorem mem_plLv {lf : List Nat} {e : Leaf} : e ∈ plLv lf ↔ ∃ x, x < lf.length ∧ e = ⟨(x : Int), (mleaf lf x : Int)⟩ := by
  simp only [plLv, List.mem_map, List.mem_range]
  constructor
  · rintro ⟨x, hx, rfl⟩; exact ⟨x, hx, rfl⟩
  · rintro ⟨x, hx, rfl⟩; exact ⟨x, hx, rfl⟩
theorem mem_plBr {L n : Nat} {t : List (List (List Nat))} {e : Branch} : e ∈ plBr L n t ↔ ∃ x i j, x < L ∧ i < n ∧ j < n ∧ e = ⟨(x : Int), (i : Int), (j : Int), (mbr t x i j : Int)⟩ := by
  simp only [plBr, List.mem_flatMap, List.mem_map, List.mem_range]
  constructor
  · rintro ⟨x, hx, i, hi, j, hj, rfl⟩; exact ⟨x, i, j, hx, hi, hj, rfl⟩
  · rintro ⟨x, i, j, hx, hi, hj, rfl⟩; exact ⟨x, hx, i, hi, j, hj, rfl⟩
theorem mem_accIdx {ac : List Bool} {i : Nat} : i ∈ accIdx ac ↔ i < ac.length ∧ macc ac i = true := by simp [accIdx, List.mem_filter]

section
variable {L : Nat} {ac : List Bool} {lf : List Nat} {t : List (List (List Nat))}
theorem plain_valid (h : MOK L ac lf t) (h1 : 1 ≤ L) (h8 : L ≤ 8) (hn : ac.length ≤ 64) : (plainA L ac lf t).valid = true := by
  simp only [TA.valid, TA.head, plainA, Bool.and_eq_true]
  refine ⟨⟨⟨⟨⟨⟨decide_eq_true (by omega), decide_eq_true (by omega)⟩, decide_eq_true (by omega)⟩, decide_eq_true (by omega)⟩, ?_⟩, ?_⟩, ?_⟩
  · rw [List.all_eq_true]
    intro q hq
    obtain ⟨i, hi, rfl⟩ := List.mem_map.1 hq
    have := (mem_accIdx.1 hi).1
    simp [inR]; omega
  · rw [List.all_eq_true]
    intro e he
    obtain ⟨x, hx, rfl⟩ := mem_plLv.1 he
    rw [h.lfl] at hx
    have := h.isM.leaf_lt x hx
    simp [okLeaf, inR]; omega
  · rw [List.all_eq_true]
    intro e he
    obtain ⟨x, i, j, hx, hi, hj, rfl⟩ := mem_plBr.1 he
    have := h.isM.br_lt x i j hx hi hj
    simp [okBranch, inR]; omega
theorem plain_leaf (h : MOK L ac lf t) {x : Nat} (hx : x < L) : (plainA L ac lf t).leafS x = 2 ^ mleaf lf x := by
  apply Nat.eq_of_testBit_eq
  intro r
  show (leafM (plLv lf) x).testBit r = _
  have := tb_fold (f := fun e : Leaf => e.to) (c := fun e => decide (e.letter = (x : Int))) r (plLv lf) 0
  simp only [decide_eq_true_eq] at this
  unfold leafM
  rw [this, Nat.testBit_two_pow, Nat.zero_testBit, Bool.false_or, Bool.eq_iff_iff, List.any_eq_true, decide_eq_true_eq]
  constructor
  · rintro ⟨e, he, h2⟩
    obtain ⟨x', -, rfl⟩ := mem_plLv.1 he
    simp at h2
    obtain ⟨h4, h3⟩ := h2
    obtain rfl : x' = x := by omega
    exact h3
  · rintro rfl
    exact ⟨_, mem_plLv.2 ⟨x, by rw [h.lfl]; exact hx, rfl⟩, by simp⟩
theorem plain_br {x p q : Nat} (hx : x < L) (hp : p < ac.length) (hq : q < ac.length) : (plainA L ac lf t).brS x (2 ^ p) (2 ^ q) = 2 ^ mbr t x p q := by
  apply Nat.eq_of_testBit_eq
  intro r
  show (brM (2 ^ p) (2 ^ q) (byL (plBr L ac.length t) x)).testBit r = _
  have := tb_fold (f := fun e : Branch => e.to) (c := fun e => mBit (2 ^ p) e.first && mBit (2 ^ q) e.second) r (byL (plBr L ac.length t) x) 0
  unfold brM
  rw [this, Nat.testBit_two_pow, Nat.zero_testBit, Bool.false_or, Bool.eq_iff_iff, List.any_eq_true, decide_eq_true_eq]
  constructor
  · rintro ⟨e, he, h2⟩
    obtain ⟨he, hl⟩ := List.mem_filter.1 he
    obtain ⟨x', i, j, -, -, -, rfl⟩ := mem_plBr.1 he
    simp [mBit, Nat.testBit_two_pow] at h2 hl
    obtain ⟨⟨rfl, rfl⟩, h3⟩ := h2
    obtain rfl : x' = x := by omega
    exact h3
  · rintro rfl
    exact ⟨_, List.mem_filter.2 ⟨mem_plBr.2 ⟨x, p, q, hx, hp, hq, rfl⟩, by simp⟩, by simp [mBit]⟩
theorem plain_mask (h : MOK L ac lf t) : ∀ tr : Tr, tr.ok L → (plainA L ac lf t).mask tr = 2 ^ runT (mleaf lf) (mbr t) tr
  | .leaf _, hx => plain_leaf h hx
  | .node x a b, hx => by
    show (plainA L ac lf t).brS x ((plainA L ac lf t).mask a) ((plainA L ac lf t).mask b) = _
    rw [plain_mask h a hx.2.1, plain_mask h b hx.2.2]
    exact plain_br hx.1 (h.isM.run_lt a hx.2.1) (h.isM.run_lt b hx.2.2)
theorem plain_lang (h : MOK L ac lf t) (tr : Tr) (ht : tr.ok L) : (plainA L ac lf t).lang tr = macc ac (runT (mleaf lf) (mbr t) tr) := by
  show (plainA L ac lf t).accS ((plainA L ac lf t).mask tr) = _
  have hlt := h.isM.run_lt tr ht
  rw [plain_mask h tr ht, accS_any _ _ (fun q hq => by
    obtain ⟨i, -, rfl⟩ := List.mem_map.1 hq
    omega), Bool.eq_iff_iff, List.any_eq_true]
  constructor
  · rintro ⟨q, hq, h2⟩
    obtain ⟨i, hi, rfl⟩ := List.mem_map.1 hq
    simp [mBit, Nat.testBit_two_pow] at h2
    subst h2
    exact (mem_accIdx.1 hi).2
  · intro h2
    exact ⟨_, List.mem_map.2 ⟨_, mem_accIdx.2 ⟨hlt, h2⟩, rfl⟩, by simp [mBit]⟩
theorem nodup_le : ∀ (n : Nat) (l : List Nat), l.Nodup → (∀ x ∈ l, ∃ p, p < n ∧ x = 2 ^ p) → l.length ≤ n
  | 0, l, _, h => by
    cases l with
    | nil => simp
    | cons x l =>
      obtain ⟨p, hp, -⟩ := h x List.mem_cons_self
      omega
  | n + 1, l, hn, h => by
    have h1 := nodup_le n (l.erase (2 ^ n)) (hn.erase _) (fun x hx => by
      have hx2 := (hn.mem_erase_iff).1 hx
      obtain ⟨p, hp, e⟩ := h x hx2.2
      refine ⟨p, ?_, e⟩
      have : p ≠ n := fun e2 => hx2.1 (by rw [e, e2])
      omega)
    rw [List.length_erase] at h1
    split at h1 <;> omega
theorem plain_small (h : MOK L ac lf t) (hn : ac.length ≤ 64) : ¬ (plainA L ac lf t).Large := by
  rintro ⟨l, hnd, hr, hlen⟩
  have := nodup_le ac.length l hnd fun s hs => by
    obtain ⟨tr, htr, rfl⟩ := reach_run.1 (hr s hs)
    have htr' : tr.ok L := by simpa [plainA] using htr
    exact ⟨_, h.isM.run_lt tr htr', plain_mask h tr htr'⟩
  omega
end

theorem flatMap_same {A B : Type} {l : List A} {f g : A → List B} (h : ∀ x ∈ l, f x = g x) : l.flatMap f = l.flatMap g := by
  induction l with
  | nil => rfl
  | cons x l ih => rw [List.flatMap_cons, List.flatMap_cons, h x List.mem_cons_self, ih fun y hy => h y (List.mem_cons_of_mem _ hy)]
theorem plain_same {L : Nat} {ac ac' : List Bool} {lf lf' : List Nat} {t t' : List (List (List Nat))} {Λ Λ' : Tr → Bool} (h : MOK L ac lf t) (h' : MOK L ac' lf' t') (hc : Canon L ac.length (mleaf lf) (mbr t) (macc ac) Λ)
    (hc' : Canon L ac'.length (mleaf lf') (mbr t') (macc ac') Λ') (hΛ : ∀ tr : Tr, tr.ok L → Λ tr = Λ' tr) : plainA L ac' lf' t' = plainA L ac lf t := by
  obtain ⟨hn, h1, h2, h3⟩ := Canon.unique hc hc' hΛ
  have e1 : accIdx ac' = accIdx ac := by
    unfold accIdx
    rw [← hn]
    exact List.filter_congr fun x hx => (h3 x (List.mem_range.1 hx)).symm
  have e2 : plLv lf' = plLv lf := by
    unfold plLv
    rw [h.lfl, h'.lfl]
    exact List.map_congr_left fun x hx => by rw [h1 x (List.mem_range.1 hx)]
  have e3 : plBr L ac'.length t' = plBr L ac.length t := by
    unfold plBr
    rw [← hn]
    refine flatMap_same fun x hx => flatMap_same fun i hi => List.map_congr_left fun j hj => ?_
    rw [h2 x i j (List.mem_range.1 hx) (List.mem_range.1 hi) (List.mem_range.1 hj)]
  unfold plainA
  rw [e1, e2, e3, hn]

/-! ## its memory -/
theorem flat2 (l : List Leaf) : ∀ (k j : Nat) (b : Leaf), l[k]? = some b → j < 2 → (l.flatMap lvCells)[k * 2 + j]? = some (encL b j) := by
  induction l with
  | nil => intro k j b h; simp at h
  | cons c l ih =>
    intro k j b h hj
    rw [List.flatMap_cons]
    cases k with
    | zero =>
      simp at h; subst h
      rw [List.getElem?_append_left (by simp [lvCells]; omega)]
      match j, hj with
      | 0, _ => simp [lvCells, encL]
      | 1, _ => simp [lvCells, encL]
    | succ k =>
      simp at h
      rw [List.getElem?_append_right (by simp [lvCells]; omega)]
      have := ih k j b h hj
      rw [show (k + 1) * 2 + j - (lvCells c).length = k * 2 + j from by simp [lvCells]; omega]
      exact this
theorem sl_own {D : Type} {w : World} {base sz : Nat} {e : TypeId} {v : Value} {enc : D → Nat → Value} {ds : List D} {xs : List Value} (h : w.ownsRow base e sz v ds.length xs) (hx : ∀ (k j : Nat) (d : D), ds[k]? = some d → j < sz → xs[k * sz + j]? = some (enc d j)) :
    ∃ A c, v = .slice A ds.length c ∧ Sl w w.heap.size sz enc A ds := by
  obtain ⟨hl, hh⟩ := h
  rcases hh with ⟨rfl, h0⟩ | ⟨g, cap, cur, rfl, hb, hg, hc, hm, hs, ht⟩
  · have : ds = [] := List.length_eq_zero_iff.1 h0
    subst this
    exact ⟨none, 0, rfl, Sl.nil rfl⟩
  · refine ⟨_, _, rfl, by unfold maxLen at hm; omega, fun _ => ⟨g, 0, rfl, (Array.getElem?_eq_some_iff.1 hg).1, fun k d hd j hj => ?_⟩⟩
    rw [cell_of_row w g _ cur e (0, 0) hg, Nat.zero_add, ← hx k j d hd hj, ← ht, List.getElem?_take]
    have hk := lt_of_get hd
    have : k * sz + j < ds.length * sz := by
      have : (k + 1) * sz ≤ ds.length * sz := Nat.mul_le_mul_right _ hk
      rw [Nat.succ_mul] at this
      omega
    simp [this]
theorem own_ta {w : World} {base L : Nat} {v : Value} {ac : List Bool} {lf : List Nat} {t : List (List (List Nat))} (h : OwnTA w base v L ac.length (accIdx ac) (plLv lf) (plBr L ac.length t)) : IsTA w w.heap.size v (plainA L ac lf t) := by
  obtain ⟨va, vl, vb, rfl, h1, h2, h3⟩ := h
  have h1' : w.ownsRow base 3 1 va ((accIdx ac).map fun i : Nat => (i : Int)).length ((accIdx ac).map encN) := by simpa using h1
  obtain ⟨A1, c1, rfl, s1⟩ := sl_own (enc := encI) h1' (fun k j d hd hj => by
    have hj0 : j = 0 := by omega
    subst hj0
    rw [List.getElem?_map] at hd
    rw [Nat.mul_one, Nat.add_zero, List.getElem?_map]
    cases hk : (accIdx ac)[k]? with
    | none => rw [hk] at hd; cases hd
    | some i =>
      rw [hk] at hd
      have := Option.some.inj hd
      subst this
      rfl)
  obtain ⟨A2, c2, rfl, s2⟩ := sl_own (enc := encL) h2 (fun k j d hd hj => flat2 _ k j d hd hj)
  obtain ⟨A3, c3, rfl, s3⟩ := sl_own (enc := encBr) h3 (fun k j d hd hj => flat4 _ k j d hd hj)
  exact ⟨A1, c1, A2, c2, A3, c3, rfl, s1, s2, s3⟩

theorem plBr_len {L n : Nat} {t : List (List (List Nat))} : (plBr L n t).length = L * (n * n) := by
  unfold plBr
  simp [List.length_flatMap, List.map_const', List.sum_replicate_nat]
/-- Both automata give the same answer on all trees. -/
theorem keep_acc {a : TA} {ac : List Bool} {lf : List Nat} {t : List (List (List Nat))} (hv : a.valid = true) (h : MOK a.letters.toNat ac lf t) (hn : ac.length ≤ 64) (hc : Canon a.letters.toNat ac.length (mleaf lf) (mbr t) (macc ac) a.lang) (sh lb : List Int) :
    accT (plainA a.letters.toNat ac lf t) sh lb = accT a sh lb := by
  obtain ⟨h1, h8, -, -, -, -, -, -⟩ := TA.valid_parts hv
  have hpv := plain_valid h (by omega) (by omega) hn
  have hl : (plainA a.letters.toNat ac lf t).letters = a.letters := by simp [plainA]; omega
  unfold accT
  rw [hpv, hv, hl]
  cases hvt : validT a.letters sh lb
  · rfl
  · have hok := (validT_tree hvt).2.1
    rw [plain_lang h _ hok, hc.lang _ hok]
end Go.Proofs.Ytnimlcbgeiajiaa

namespace Go.Proofs.Ytnimlcbgeiajiaa
open Go.RowKit

theorem sl_ints {w : World} {base n : Nat} {v : Value} {l : List Int} (h : w.ownsRow base 3 1 v n (ints l)) (hn : n = l.length) : ∃ A c, v = .slice A l.length c ∧ Sl w w.heap.size 1 encI A l := by
  subst hn
  exact sl_own h fun k j d hk hj => by
    have : j = 0 := by omega
    subst this
    simp [ints, hk, encI]
theorem accT_tree {a : TA} {t : Tr} (hv : a.valid = true) (hok : t.ok a.letters.toNat) (hn : t.nodes ≤ 4095) (hl : a.lang t = true) : accT a t.sh t.lb = .tuple #[.bool true, .int .i64 0] := by
  have hL := (TA.fits hv).hL
  unfold accT
  rw [hv, validT_pre (L := a.letters) (n := a.letters.toNat) (by omega) hok hn, treeOf_tree, hl]
  rfl

set_option maxHeartbeats 8000000 in
set_option maxRecDepth 100000 in
theorem lawWitnessLeast {v : Value} {a : TA} {w : World} {c1' c2' : Nat} {D1 D2 : Option Addr} {sh lb : List Int} (h : IsTA w w.heap.size v a) (hs : Sl w w.heap.size 1 encI D1 sh) (hl : Sl w w.heap.size 1 encI D2 lb) :
    Calls Try.prog 13 #[v, .agg #[.slice D1 sh.length c1', .slice D2 lb.length c2']] w (Ret fun v w' => v = .bool true ∧ Below w.heap.size w w') := by
  obtain ⟨A1, c1, A2, c2, A3, c3, rfl, h1, h2, h3⟩ := h
  obtain ⟨w1, hw1, hb1, hB1, hk1⟩ := box_blk w #[.int .i64 a.letters, .int .i64 a.states, .slice A1 a.accept.length c1, .slice A2 a.leaves.length c2, .slice A3 a.branches.length c3] 26
  obtain ⟨w2, hw2, hb2, hB2, hk2⟩ := box_blk w1 #[.slice D1 sh.length c1', .slice D2 lb.length c2'] 40
  have hsz1 := hb1.size
  have hsz2 := hb2.size
  have hb02 := hb1.trans (hb2.mono hsz1)
  have hB12 := hB1.kept hk2 id
  have hcb1 := hB12.cell
  have hcb2 := hB2.cell
  have hT : IsTA w2 w2.heap.size (.agg #[.int .i64 a.letters, .int .i64 a.states, .slice A1 a.accept.length c1, .slice A2 a.leaves.length c2, .slice A3 a.branches.length c3]) a :=
    IsTA.keep ⟨A1, c1, A2, c2, A3, c3, rfl, h1, h2, h3⟩ (fun _ hp => hb02.cell hp) (by omega)
  have hTT := hide hT
  have hs2 := hide ((hs.below hb02).mono (B' := w2.heap.size) (by omega))
  have hl2 := hide ((hl.below hb02).mono (B' := w2.heap.size) (by omega))
  have hns := hs.1
  have hnl := hl.1
  clear hT h1 h2 h3
  go_enter Try.func13, Try.ntmps13
  go_wp2_with fail
  refine (Big_any _ a w2 hTT.out).mono ?_
  rintro e w3 ⟨rfl, hb3⟩
  have hb03 : Below w.heap.size w w3 := hb02.trans (hb3.mono (by omega))
  have hcb3 := (hB12.kept (Kept.of_below hb3 (fun _ => False)) id).cell
  have hB23 := hB2.kept (Kept.of_below hb3 (fun _ => False)) id
  have hdb3 := hB23.cell
  have hsz3 := hb3.size
  cases hbig : a.big with
  | true =>
    go_wp2_with fail
    refine Calls.ret (known_any w3) ?_
    rintro v w4 ⟨rfl, hb4⟩
    have hb04 := hide (hb03.trans (hb4.mono (by omega)))
    clear hb4
    go_wp2_with fail
    go_ret
    exact ⟨rfl, hb04.out⟩
  | false =>
    have hs3 := hide ((hs2.out.below hb3).mono hsz3)
    have hl3 := hide ((hl2.out.below hb3).mono hsz3)
    have hT3 := hide (hTT.out.keep (fun _ hp => hb3.cell hp) hsz3)
    go_wp2_with fail
    refine Calls.ret (long_any hs3.out hl3.out) ?_
    rintro v w4 ⟨rfl, hb4⟩
    have hb04 : Below w.heap.size w w4 := hb03.trans (hb4.mono (by omega))
    have hsz4 := hb4.size
    have hB14 := ((hB12.kept (Kept.of_below hb3 (fun _ => False)) id).kept (Kept.of_below hb4 (fun _ => False)) id)
    have hcb4 := hB14.cell
    have hB24 := hB23.kept (Kept.of_below hb4 (fun _ => False)) id
    have hdb4 := hB24.cell
    cases hlong : (decide (60 < sh.length) || decide (60 < lb.length)) with
    | true =>
      go_wp2_with fail
      refine Calls.ret (known_any w4) ?_
      rintro v w5 ⟨rfl, hb5⟩
      have hb05 := hide (hb04.trans (hb5.mono (by omega)))
      clear hb5
      go_wp2_with fail
      go_ret
      exact ⟨rfl, hb05.out⟩
    | false =>
      have hLEN : Hid (sh.length ≤ 60) := by
        show _ ≤ _
        simp only [Bool.or_eq_false_iff, decide_eq_false_iff_not] at hlong
        omega
      have hs4 := hide ((hs3.out.below hb4).mono hsz4)
      have hl4 := hide ((hl3.out.below hb4).mono hsz4)
      have hT4 := hide (hT3.out.keep (fun _ hp => hb4.cell hp) hsz4)
      clear hlong
      go_wp2_with fail
      refine Calls.ret (accepts_any hT4.out hs4.out hl4.out (Nat.le_refl _) (Nat.le_refl _)) ?_
      rintro v w5 ⟨rfl, hb5⟩
      have hb05 : Below w.heap.size w w5 := hb04.trans (hb5.mono (by omega))
      have hsz5 := hb5.size
      have hB15 := hB14.kept (Kept.of_below hb5 (fun _ => False)) id
      have hcb5 := hB15.cell
      have hB25 := hB24.kept (Kept.of_below hb5 (fun _ => False)) id
      have hdb5 := hB25.cell
      have hT5 := hide (hT4.out.keep (fun _ hp => hb5.cell hp) hsz5)
      by_cases hyes : a.valid = true ∧ validT a.letters sh lb = true ∧ a.lang (treeOf sh lb) = true
      · obtain ⟨hv, hvt, hlang⟩ := hyes
        have hacc : accT a sh lb = .tuple #[.bool true, .int .i64 0] := by simp [accT, hv, hvt, hlang]
        rw [hacc]
        have hV := hide hv
        have hVT := hide hvt
        have hLA := hide hlang
        clear hv hvt hlang hacc
        go_wp2_with fail
        refine Calls.ret (witness_any hT5.out) ?_
        rintro v w6 ⟨hb6, hwit⟩
        have hb06 : Below w.heap.size w w6 := hb05.trans (hb6.mono (by omega))
        have hsz6 := hb6.size
        have hB16 := hB15.kept (Kept.of_below hb6 (fun _ => False)) id
        have hcb6 := hB16.cell
        have hB26 := hB25.kept (Kept.of_below hb6 (fun _ => False)) id
        have hdb6 := hB26.cell
        have hT6 := hide (hT5.out.keep (fun _ hp => hb6.cell hp) hsz6)
        have hnodes := treeOf_nodes hVT.out
        have hfour : ∃ t s1 s2, v = .tuple #[s1, s2, .bool true, .int .i64 0] ∧ a.lang t = true ∧ t.ok a.letters.toNat ∧ t.nodes ≤ 4095 ∧ (∀ t', a.lang t' = true → t.nodes ≤ t'.nodes) ∧ w6.ownsRow w5.heap.size 3 1 s1 t.nodes (ints t.sh) ∧ w6.ownsRow w5.heap.size 3 1 s2 t.nodes (ints t.lb) := by
          have h1 := hLA.out
          have h2 := hLEN.out
          rcases hwit with ⟨h, -⟩ | ⟨-, h, -⟩ | ⟨-, -, h, -⟩ | ⟨-, h⟩
          · rw [hV.out] at h; cases h
          · rw [h] at h1; cases h1
          · have := h _ h1; omega
          · exact h
        obtain ⟨t, s1, s2, rfl, ht1, ht2, ht3, ht4, ht5, ht6⟩ := hfour
        obtain ⟨E1, d1, rfl, hq1⟩ := sl_ints ht5 (t.sh_len).symm
        obtain ⟨E2, d2, rfl, hq2⟩ := sl_ints ht6 (t.lb_len).symm
        have hle := ht4 _ hLA.out
        rw [hnodes, ← t.sh_len] at hle
        have hle' : (t.sh.length : Int) ≤ (sh.length : Int) := by omega
        have hQ1 := hide hq1
        have hQ2 := hide hq2
        have hAT := hide (accT_tree hV.out ht2 ht3 ht1)
        have hlenl : t.lb.length = t.sh.length := by rw [t.lb_len, t.sh_len]
        have htn := hq1.1
        clear hwit ht1 ht2 ht3 ht4 ht5 ht6 hq1 hq2 hle hnodes hlenl
        go_wp2_with fail
        refine Calls.ret (accepts_any hT6.out hQ1.out hQ2.out (Nat.le_refl _) (Nat.le_refl _)) ?_
        rintro v w7 ⟨rfl, hb7⟩
        have hb07 : Below w.heap.size w w7 := hb06.trans (hb7.mono (by omega))
        have hsz7 := hb7.size
        have hB27 := hB26.kept (Kept.of_below hb7 (fun _ => False)) id
        have hdb7 := hB27.cell
        rw [hAT.out]
        go_wp2_with fail
        refine Calls.ret (known_any w7) ?_
        rintro v w8 ⟨rfl, hb8⟩
        have hb08 := hide (hb07.trans (hb8.mono (by omega)))
        clear hb8
        go_wp2_with fail
        go_ret
        exact ⟨rfl, hb08.out⟩
      · have hno : accT a sh lb = .tuple #[.bool false, .int .i64 0] ∨ accT a sh lb = .tuple #[.bool false, .int .i64 1] := by
          unfold accT
          cases h1 : a.valid
          · simp
          · cases h2 : validT a.letters sh lb
            · simp
            · cases h3 : a.lang (treeOf sh lb)
              · simp
              · exact absurd ⟨h1, h2, h3⟩ hyes
        clear hyes
        rcases hno with hno | hno
        all_goals
          rw [hno]
          clear hno
          go_wp2_with fail
          refine Calls.ret (known_any w5) ?_
          rintro v w6 ⟨rfl, hb6⟩
          have hb06 := hide (hb05.trans (hb6.mono (by omega)))
          clear hb6
          go_wp2_with fail
          go_ret
          exact ⟨rfl, hb06.out⟩
end Go.Proofs.Ytnimlcbgeiajiaa

namespace Go.Proofs.Ytnimlcbgeiajiaa
open Go.RowKit

def capM : Nat := 4097
structure RndM (a : TA) (sz0 sz : List Nat) (k : Nat) (again : Bool) : Prop where
  no : again = false → sz = sz0 ∧ ∀ b ∈ a.branches.take k, Stable capM sz0 b
  yes : again = true → szSum capM sz < szSum capM sz0
theorem RndM.start (a : TA) (sz : List Nat) : RndM a sz sz 0 false := ⟨fun _ => ⟨rfl, fun b h => by simp at h⟩, fun h => by cases h⟩
theorem RndM.skip {a : TA} {sz0 sz : List Nat} {k : Nat} {f : Bool} {b : Branch} (h : RndM a sz0 sz k f) (hb : a.branches[k]? = some b) (hs : Stable capM sz b) : RndM a sz0 sz (k + 1) f :=
  ⟨fun e => by
    obtain ⟨rfl, h2⟩ := h.no e
    refine ⟨rfl, fun b' hb' => ?_⟩
    rw [List.take_add_one, hb] at hb'
    simp only [Option.toList_some, List.mem_append, List.mem_singleton] at hb'
    rcases hb' with hb' | rfl
    · exact h2 b' hb'
    · exact hs, h.yes⟩
theorem RndM.hit {a : TA} {sz0 sz sz' : List Nat} {k : Nat} {f : Bool} (h : RndM a sz0 sz k f) (hs : szSum capM sz' < szSum capM sz) : RndM a sz0 sz' (k + 1) true :=
  ⟨fun e => by (cases e), fun _ => by
    cases f with
    | false => rw [← (h.no rfl).1]; exact hs
    | true => have := h.yes rfl; omega⟩

/-- The memory of Fewest: the sizes. -/
structure FewM (w0 w : World) (gs : Nat) (sz : List Nat) : Prop where
  below : Below w0.heap.size w0 w
  bs : Blk w gs 3 (sz.map encN).toArray
  hs : w0.heap.size ≤ gs
/-- Sizes whose trees are known. -/
def FewI (a : TA) (S : Nat) (sz : List Nat) : Prop := ∃ lf fr, GroI a capM S sz lf fr
section
variable {w0 w w' : World} {gs : Nat} {sz : List Nat}
theorem FewM.keep0 (h : FewM w0 w gs sz) (hk : Kept w w' (fun _ => False)) : FewM w0 w' gs sz :=
  ⟨h.below.trans (hk.below h.below.size fun _ _ x => x), h.bs.kept hk id, h.hs⟩
theorem FewM.set (h : FewM w0 w gs sz) (q n : Nat) : FewM w0 (w.setCell ⟨gs, q, none⟩ (.int .i64 (n : Int))) gs (sz.set q n) := by
  have hk : Kept w (w.setCell ⟨gs, q, none⟩ (.int .i64 (n : Int))) (fun k => k = gs) := (Kept.refl w (fun k => k = gs)).setCell (p := ⟨gs, q, none⟩) (fun _ => rfl) _
  have hb := h.bs.set_ q (.int .i64 (n : Int))
  rw [encN_set] at hb
  exact ⟨h.below.trans (hk.below h.below.size fun b hb e => by have := h.hs; omega), hb, h.hs⟩
theorem FewM.cs (h : FewM w0 w gs sz) {q n : Nat} (hq : sz[q]? = some n) : w.cell? ⟨gs, q, none⟩ = some (.int .i64 (n : Int)) := by
  rw [h.bs.cell]
  simp [hq, encN]
end

set_option maxHeartbeats 8000000 in
set_option maxRecDepth 100000 in
theorem few_leaves {a : TA} {L S c1 c2 c3 gb gs : Nat} (hF : a.Fits L S) {w0 w : World} {A1 A2 A3 : Option Addr} (h2 : Sl w0 w0.heap.size 2 encL A2 a.leaves)
    (hB : Blk w0 gb 26 #[.int .i64 a.letters, .int .i64 a.states, .slice A1 a.accept.length c1, .slice A2 a.leaves.length c2, .slice A3 a.branches.length c3]) {sz : List Nat}
    (hG : FewM w0 w gs sz) (hI : FewI a S sz)
    {u0 u2 u3 u6 u7 u8 u9 u10 u11 u12 u13 u14 u15 u16 u17 u18 u19 u20 u21 u22 u23 u24 u25 u26 u27 u28 u29 u30 u31 u32 u33 u34 u35 u36 u37 u38 u39 u40 u41 u42 u43 u44 u45 u46 u47 u48 u49 u50 u51 u52 u53 u54 u55 u56 u57 u58 u59 u60 u61 u62 u63 u64 u65 u66 u67 u68 u69 u70 u71 u72 u73 u74 u75 u76 u77 u78 u79 u80 u81 u82 u83 u84 u85 u86 u87 u88 u89 u90 u91 u92 u93 u94 u95 u96 u97 u98 u99 u100 u101 u102 u103 u104 u105 u106 u107 u108 u109 u110 u111 u112 u113 u114 u115 u116 u117 u118 u119 u120 : Value}
    {Q : Exit → Act → World → Prop}
    (hQ : ∀ (x5 x16 x17 x18 x19 x20 x21 x22 x23 x24 x25 x26 x27 x28 x29 x30 : Value) (w' : World) (sz' : List Nat), FewM w0 w' gs sz' → FewI a S sz' → (∀ l ∈ a.leaves, szOf sz' l.to = 1) →
      Q (.exit 0) ⟨List.toArray (u0 :: (.pointer (some ⟨gb, 0, none⟩)) :: u2 :: u3 :: (.slice (some ⟨gs, 0, none⟩) S S) :: x5 :: u6 :: u7 :: u8 :: u9 :: u10 :: u11 :: u12 :: u13 :: u14 :: u15 :: x16 :: x17 :: x18 :: x19 :: x20 :: x21 :: x22 :: x23 :: x24 :: x25 :: x26 :: x27 :: x28 :: x29 :: 
      x30 :: u31 :: u32 :: u33 :: u34 :: u35 :: u36 :: u37 :: u38 :: u39 :: u40 :: u41 :: u42 :: u43 :: u44 :: u45 :: u46 :: u47 :: u48 :: u49 :: u50 :: u51 :: u52 :: u53 :: u54 :: u55 :: u56 :: u57 :: u58 :: u59 :: u60 :: u61 :: u62 :: u63 :: u64 :: u65 :: u66 :: 
      u67 :: u68 :: u69 :: u70 :: u71 :: u72 :: u73 :: u74 :: u75 :: u76 :: u77 :: u78 :: u79 :: u80 :: u81 :: u82 :: u83 :: u84 :: u85 :: u86 :: u87 :: u88 :: u89 :: u90 :: u91 :: u92 :: u93 :: u94 :: u95 :: u96 :: u97 :: u98 :: u99 :: u100 :: u101 :: u102 :: u103 :: 
      u104 :: u105 :: u106 :: u107 :: u108 :: u109 :: u110 :: u111 :: u112 :: u113 :: u114 :: u115 :: u116 :: u117 :: u118 :: u119 :: u120 :: []), []⟩ w') :
    (Code.loop (loopBody Try.f31 0)).wp Try.prog Q ⟨List.toArray (u0 :: (.pointer (some ⟨gb, 0, none⟩)) :: u2 :: u3 :: (.slice (some ⟨gs, 0, none⟩) S S) :: (.int .i64 0) :: u6 :: u7 :: u8 :: u9 :: u10 :: u11 :: u12 :: u13 :: u14 :: u15 :: u16 :: u17 :: u18 :: u19 :: u20 :: u21 :: u22 :: u23 :: u24 :: u25 :: u26 :: u27 :: u28 :: 
      u29 :: u30 :: u31 :: u32 :: u33 :: u34 :: u35 :: u36 :: u37 :: u38 :: u39 :: u40 :: u41 :: u42 :: u43 :: u44 :: u45 :: u46 :: u47 :: u48 :: u49 :: u50 :: u51 :: u52 :: u53 :: u54 :: u55 :: u56 :: u57 :: u58 :: u59 :: u60 :: u61 :: u62 :: u63 :: u64 :: u65 :: 
      u66 :: u67 :: u68 :: u69 :: u70 :: u71 :: u72 :: u73 :: u74 :: u75 :: u76 :: u77 :: u78 :: u79 :: u80 :: u81 :: u82 :: u83 :: u84 :: u85 :: u86 :: u87 :: u88 :: u89 :: u90 :: u91 :: u92 :: u93 :: u94 :: u95 :: u96 :: u97 :: u98 :: u99 :: u100 :: u101 :: u102 :: 
      u103 :: u104 :: u105 :: u106 :: u107 :: u108 :: u109 :: u110 :: u111 :: u112 :: u113 :: u114 :: u115 :: u116 :: u117 :: u118 :: u119 :: u120 :: []), []⟩ w := by
  conv => arg 2; arg 1; whnf
  have hn := h2.1
  have hS64 := hF.S64
  go_loopw [5] (fun ii wr => ∃ (k : Nat) (sz' : List Nat), ii = .int .i64 (k : Int) ∧ k ≤ a.leaves.length ∧ FewM w0 wr gs sz' ∧ FewI a S sz' ∧ Hid (∀ l ∈ a.leaves.take k, szOf sz' l.to = 1)) (fun ii _ => a.leaves.length - (intOf ii).toNat)
  case atStart => exact ⟨0, sz, rfl, Nat.zero_le _, hG, hI, fun l hl => by simp at hl⟩
  case round =>
    obtain ⟨k, sz', rfl, hk, hG', hI', hH⟩ := hrel
    have hcb := (hB.kept (Kept.of_below hG'.below (fun _ => False)) id).cell
    have hII := hide hI'
    clear hI'
    by_cases hlt : k < a.leaves.length
    · obtain ⟨b, off, l, rfl, hbk, hx, hc⟩ := h2.at hlt
      obtain ⟨x, q, rfl, hxL, hqS⟩ := hF.lv l (List.mem_of_getElem? hx)
      have hc1 := (hG'.below.cell (by exact hbk)).trans (hc 1 (by omega))
      simp only [encL] at hc1
      have hlen : sz'.length = S := by obtain ⟨_, _, h⟩ := hII.out; exact h.len
      obtain ⟨n, hq⟩ := get_lt (l := sz') (i := q) (by rw [hlen]; exact hqS)
      have hcs := hG'.cs hq
      have hfs := hG'.bs.frozen q
      have hsg := hG'.bs.lt
      have hX := hide hx
      have hGS := hide (hG'.set q 1)
      have hLEN := hide hlen
      clear hx hc hG' hq hlen
      go_wp2_with fail
      refine ⟨⟨k + 1, _, by go_num, by omega, hGS.out, ?_, lv_add hX.out (by rw [hLEN.out]; exact hqS) (fun l hl => by obtain ⟨_, _, rfl, _⟩ := hF.lv l hl; simp) hH.out⟩, by simp [intOf]; omega⟩
      obtain ⟨lf, fr, h⟩ := hII.out
      exact ⟨_, _, h.leaf hF (by unfold capM; omega) (List.mem_of_getElem? hX.out) hqS⟩
    · have hH2 : Hid (∀ l ∈ a.leaves, szOf sz' l.to = 1) := by
        have := hH.out
        rwa [List.take_of_length_le (by omega)] at this
      have hGG := hide hG'
      clear hG'
      go_wp2_with fail
      exact hQ _ _ _ _ _ _ _ _ _ _ _ _ _ _ _ _ wr sz' hGG.out hII.out hH2.out

set_option maxHeartbeats 8000000 in
set_option maxRecDepth 100000 in
theorem few_round {a : TA} {L S c1 c2 c3 gb gs : Nat} (hF : a.Fits L S) {w0 w : World} {A1 A2 A3 : Option Addr} (h2 : Sl w0 w0.heap.size 4 encBr A3 a.branches)
    (hB : Blk w0 gb 26 #[.int .i64 a.letters, .int .i64 a.states, .slice A1 a.accept.length c1, .slice A2 a.leaves.length c2, .slice A3 a.branches.length c3]) {sz : List Nat}
    (hG : FewM w0 w gs sz) (hI : FewI a S sz) (hV : ∀ l ∈ a.leaves, szOf sz l.to = 1)
    {u0 u2 u3 u5 u8 u9 u10 u11 u12 u13 u14 u15 u16 u17 u18 u19 u20 u21 u22 u23 u24 u25 u26 u27 u28 u29 u30 u31 u32 u33 u34 u35 u36 u37 u38 u39 u40 u41 u42 u43 u44 u45 u46 u47 u48 u49 u50 u51 u52 u53 u54 u55 u56 u57 u58 u59 u60 u61 u62 u63 u64 u65 u66 u67 u68 u69 u70 u71 u72 u73 u74 u75 u76 u77 u78 u79 u80 u81 u82 u83 u84 u85 u86 u87 u88 u89 u90 u91 u92 u93 u94 u95 u96 u97 u98 u99 u100 u101 u102 u103 u104 u105 u106 u107 u108 u109 u110 u111 u112 u113 u114 u115 u116 u117 u118 u119 u120 : Value}
    {Q : Exit → Act → World → Prop} (hN : Reg.NoQ Q)
    (hQ : ∀ (x7 x8 x9 x32 x33 x34 x35 x36 x37 x38 x39 x40 x41 x42 x43 x44 x45 x46 x47 x48 x49 x50 x51 x52 x53 x54 x55 x56 x57 x58 x59 x60 x61 x62 x63 x64 x65 x66 x67 x68 x69 x70 x71 x72 x73 x74 x75 x76 x77 x78 x79 x80 x81 x82 x83 x84 x85 x86 x87 x88 x89 x90 : Value) (w' : World) (f : Bool) (sz' : List Nat), FewM w0 w' gs sz' → FewI a S sz' → (∀ l ∈ a.leaves, szOf sz' l.to = 1) → RndM a sz sz' a.branches.length f →
      Q (.exit 4) ⟨List.toArray (u0 :: (.pointer (some ⟨gb, 0, none⟩)) :: u2 :: u3 :: (.slice (some ⟨gs, 0, none⟩) S S) :: u5 :: (.bool f) :: x7 :: x8 :: x9 :: u10 :: u11 :: u12 :: u13 :: u14 :: u15 :: u16 :: u17 :: u18 :: u19 :: u20 :: u21 :: u22 :: u23 :: u24 :: u25 :: u26 :: u27 :: u28 :: 
      u29 :: u30 :: u31 :: x32 :: x33 :: x34 :: x35 :: x36 :: x37 :: x38 :: x39 :: x40 :: x41 :: x42 :: x43 :: x44 :: x45 :: x46 :: x47 :: x48 :: x49 :: x50 :: x51 :: x52 :: x53 :: x54 :: x55 :: x56 :: x57 :: x58 :: x59 :: x60 :: x61 :: x62 :: x63 :: x64 :: x65 :: 
      x66 :: x67 :: x68 :: x69 :: x70 :: x71 :: x72 :: x73 :: x74 :: x75 :: x76 :: x77 :: x78 :: x79 :: x80 :: x81 :: x82 :: x83 :: x84 :: x85 :: x86 :: x87 :: x88 :: x89 :: x90 :: u91 :: u92 :: u93 :: u94 :: u95 :: u96 :: u97 :: u98 :: u99 :: u100 :: u101 :: u102 :: 
      u103 :: u104 :: u105 :: u106 :: u107 :: u108 :: u109 :: u110 :: u111 :: u112 :: u113 :: u114 :: u115 :: u116 :: u117 :: u118 :: u119 :: u120 :: []), []⟩ w') :
    (Code.loop (loopBody Try.f31 2)).wp Try.prog Q ⟨List.toArray (u0 :: (.pointer (some ⟨gb, 0, none⟩)) :: u2 :: u3 :: (.slice (some ⟨gs, 0, none⟩) S S) :: u5 :: (.bool false) :: (.int .i64 0) :: u8 :: u9 :: u10 :: u11 :: u12 :: u13 :: u14 :: u15 :: u16 :: u17 :: u18 :: u19 :: u20 :: u21 :: u22 :: u23 :: u24 :: u25 :: u26 :: 
      u27 :: u28 :: u29 :: u30 :: u31 :: u32 :: u33 :: u34 :: u35 :: u36 :: u37 :: u38 :: u39 :: u40 :: u41 :: u42 :: u43 :: u44 :: u45 :: u46 :: u47 :: u48 :: u49 :: u50 :: u51 :: u52 :: u53 :: u54 :: u55 :: u56 :: u57 :: u58 :: u59 :: u60 :: u61 :: u62 :: u63 :: 
      u64 :: u65 :: u66 :: u67 :: u68 :: u69 :: u70 :: u71 :: u72 :: u73 :: u74 :: u75 :: u76 :: u77 :: u78 :: u79 :: u80 :: u81 :: u82 :: u83 :: u84 :: u85 :: u86 :: u87 :: u88 :: u89 :: u90 :: u91 :: u92 :: u93 :: u94 :: u95 :: u96 :: u97 :: u98 :: u99 :: u100 :: 
      u101 :: u102 :: u103 :: u104 :: u105 :: u106 :: u107 :: u108 :: u109 :: u110 :: u111 :: u112 :: u113 :: u114 :: u115 :: u116 :: u117 :: u118 :: u119 :: u120 :: []), []⟩ w := by
  conv => arg 2; arg 1; whnf
  have hn := h2.1
  have hS64 := hF.S64
  go_loopw [6, 7] (fun ff ii wr => ∃ (k : Nat) (f : Bool) (sz' : List Nat), ii = .int .i64 (k : Int) ∧ ff = .bool f ∧ k ≤ a.branches.length ∧ FewM w0 wr gs sz' ∧ FewI a S sz' ∧ Hid (∀ l ∈ a.leaves, szOf sz' l.to = 1) ∧ RndM a sz sz' k f) (fun _ ii _ => a.branches.length - (intOf ii).toNat)
  case atStart => exact ⟨0, false, sz, rfl, rfl, Nat.zero_le _, hG, hI, hV, RndM.start a sz⟩
  case round =>
    obtain ⟨k, f, sz', rfl, rfl, hk, hG', hI', hH, hR⟩ := hrel
    have hBr := hB.kept (Kept.of_below hG'.below (fun _ => False)) id
    have hcbr := hBr.cell
    have hHBr := hide hBr
    clear hBr
    by_cases hlt : k < a.branches.length
    · obtain ⟨b, off, l, rfl, hbk, hx, hc⟩ := h2.at hlt
      obtain ⟨x, p, r, q, rfl, hxL, hpS, hrS, hqS⟩ := hF.br l (List.mem_of_getElem? hx)
      have hcc := fun j hj => (hG'.below.cell (by exact hbk)).trans (hc j hj)
      have hc0 := hcc 0 (by omega)
      have hc1 := hcc 1 (by omega)
      have hc2 := hcc 2 (by omega)
      have hc3 := hcc 3 (by omega)
      simp only [Nat.add_zero, encBr] at hc0 hc1 hc2 hc3
      obtain ⟨lf, fr, hI0⟩ := hI'
      obtain ⟨n1, hn1⟩ := get_lt (l := sz') (i := p) (by rw [hI0.len]; exact hpS)
      obtain ⟨n2, hn2⟩ := get_lt (l := sz') (i := r) (by rw [hI0.len]; exact hrS)
      obtain ⟨n3, hn3⟩ := get_lt (l := sz') (i := q) (by rw [hI0.len]; exact hqS)
      have e1 := szOf_get hn1
      have e2 := szOf_get hn2
      have e3 := szOf_get hn3
      have l1 := hI0.le p
      have l2 := hI0.le r
      have l3 := hI0.le q
      rw [e1] at l1
      rw [e2] at l2
      rw [e3] at l3
      unfold capM at l1 l2 l3
      have E1 := hide e1
      have E2 := hide e2
      have E3 := hide e3
      have hX := hide hx
      have hII := hide hI0
      have hRR := hide hR
      obtain ⟨w2, hw2, hb2, hB2, hk2⟩ := box_blk wr #[.int .i64 (x : Int), .int .i64 (p : Int), .int .i64 (r : Int), .int .i64 (q : Int)] 59
      have hG2 := hG'.keep0 hk2
      have hcbb := (hHBr.out.kept hk2 id).cell
      have hcb := hB2.cell
      have hcs1 := hG2.cs hn1
      have hcs2 := hG2.cs hn2
      have hcs3 := hG2.cs hn3
      have hHG2 := hide hG2
      have hsg := hG2.bs.lt
      have hfq := hG2.bs.frozen q
      have hbg := hB2.lt
      have hfi : FewI a S sz' := ⟨lf, fr, hI0⟩
      have hFI := hide hfi
      clear hx hcc hc hG' hI0 hn1 hn2 hn3 e1 e2 e3 hR hG2 hB2 hb2 hk2 hfi
      by_cases h1 : n1 = 0
      · subst h1
        go_wp2_with fail
        exact ⟨⟨k + 1, f, sz', by go_num, rfl, by omega, hHG2.out, hFI.out, hH, hRR.out.skip hX.out (fun h => absurd E1.out h)⟩, by simp [intOf]; omega⟩
      · by_cases h2' : n2 = 0
        · subst h2'
          go_wp2_with fail
          exact ⟨⟨k + 1, f, sz', by go_num, rfl, by omega, hHG2.out, hFI.out, hH, hRR.out.skip hX.out (fun _ h => absurd E2.out h)⟩, by simp [intOf]; omega⟩
        · have hz1 : ((n1 : Int) == 0) = false := by simp; omega
          have hz2 : ((n2 : Int) == 0) = false := by simp; omega
          go_wp2_with fail
          refine Reg.region_ints' [0, 0, 2, 7, 15, 31, 0, 0, 128, 448, 960, 2047, 4095, 8191] (by kernel_rfl) (by repeat (first | exact hN | refine Reg.NoQ.then ?_ | refine Reg.NoQ.inBlock ?_)) ?_
          intro Qf hQf
          go_wp2_with fail
          all_goals refine ⟨rfl, ?_⟩
          case' inr =>
            have e : (4097 : Int) = ((min (1 + n1 + n2) capM : Nat) : Int) := by unfold capM; omega
            rw [e]
          case' inl =>
            have e : (1 : Int) + (n1 : Int) + (n2 : Int) = ((min (1 + n1 + n2) capM : Nat) : Int) := by unfold capM; omega
            rw [e]
          all_goals
            clear h hc0 hc1 hc2 hc3
            obtain ⟨N, hN0⟩ : ∃ N, min (1 + n1 + n2) capM = N := ⟨_, rfl⟩
            rw [hN0]
            have hN1 : N ≤ 4097 := by rw [← hN0]; unfold capM; omega
            have hN2 : N ≠ 0 := by rw [← hN0]; unfold capM; omega
            have HN := hide hN0
            have HN2 := hide hN2
            have hst : N = n3 ∨ n3 < N → n3 ≠ 0 → Stable capM sz' ⟨x, p, r, q⟩ := fun h h3 _ _ => by
              show szOf sz' q ≠ 0 ∧ szOf sz' q ≤ min (1 + szOf sz' p + szOf sz' r) capM
              rw [E1.out, E2.out, E3.out, HN.out]
              omega
            have HST := hide hst
            have hdo : n3 = 0 ∨ N < n3 → FewI a S (sz'.set q N) ∧ (∀ l ∈ a.leaves, szOf (sz'.set q N) l.to = 1) ∧ RndM a sz (sz'.set q N) (k + 1) true := fun h => by
              have hfall : szOf sz' q = 0 ∨ N < szOf sz' q := by rw [E3.out]; exact h
              have hi : GroI a capM S (sz'.set q N) (lf.set q (-1)) (fr.set q ⟨x, p, r, q⟩) := by
                have := hII.out.branch hF (by unfold capM; omega) (List.mem_of_getElem? hX.out) hqS (by rw [E1.out]; exact h1) (by rw [E2.out]; exact h2') (by rw [E1.out, E2.out, HN.out]; exact hfall)
                rwa [E1.out, E2.out, HN.out] at this
              exact ⟨⟨_, _, hi⟩, lv_stay hH.out (fun l hl => by obtain ⟨_, _, rfl, _⟩ := hF.lv l hl; simp) (by have := HN2.out; omega) hfall,
                hRR.out.hit (szSum_set _ _ (by rw [hII.out.len]; exact hqS) (szM_falls hII.out HN2.out hN1 hfall))⟩
            have HDO := hide hdo
            have hGS := hide ((hHG2.out.keep0 ((Kept.refl _ _).drew)).set q N)
            have hGK := hide (hHG2.out.keep0 ((Kept.refl w2 (fun _ => False)).drew))
            clear hN0 hst hN2 hdo
            by_cases h30 : n3 = 0
            · have hz3 : ((n3 : Int) == 0) = true := by simp; omega
              obtain ⟨g1, g2, g3'⟩ := HDO.out (.inl h30)
              have hs2 := hide g1
              have hs3 := hide g2
              have hs4 := hide g3'
              clear g1 g2 g3'
              go_wp2_with fail
              exact ⟨⟨k + 1, true, _, by go_num, rfl, by omega, hGS.out, hs2.out, hs3.out, hs4.out⟩, by simp [intOf]; omega⟩
            · have hz3 : ((n3 : Int) == 0) = false := by simp; omega
              by_cases hlt3 : N < n3
              · have hz4 : ((N : Int) < (n3 : Int)) := by omega
                obtain ⟨g1, g2, g3'⟩ := HDO.out (.inr hlt3)
                have hs2 := hide g1
                have hs3 := hide g2
                have hs4 := hide g3'
                clear g1 g2 g3' hlt3
                go_wp2_with fail
                exact ⟨⟨k + 1, true, _, by go_num, rfl, by omega, hGS.out, hs2.out, hs3.out, hs4.out⟩, by simp [intOf]; omega⟩
              · have hz4 : ¬ ((N : Int) < (n3 : Int)) := by omega
                have h3h := hide hlt3
                clear hlt3
                go_wp2_with fail
                exact ⟨⟨k + 1, f, sz', by go_num, rfl, by omega, hGK.out, hFI.out, hH, hRR.out.skip hX.out (HST.out (by have := h3h.out; omega) h30)⟩, by simp [intOf]; omega⟩
    · have hI2 := hI'
      have hR2 := hide hR
      have e : k = a.branches.length := by omega
      go_wp2_with fail
      subst e
      exact hQ _ _ _ _ _ _ _ _ _ _ _ _ _ _ _ _ _ _ _ _ _ _ _ _ _ _ _ _ _ _ _ _ _ _ _ _ _ _ _ _ _ _ _ _ _ _ _ _ _ _ _ _ _ _ _ _ _ _ _ _ _ _ wr f sz' hG' hI2 hH.out hR2.out
end Go.Proofs.Ytnimlcbgeiajiaa

namespace Go.Proofs.Ytnimlcbgeiajiaa
open Go.RowKit

set_option maxHeartbeats 8000000 in
set_option maxRecDepth 100000 in
theorem few_rounds {a : TA} {L S c1 c2 c3 gb gs : Nat} (hF : a.Fits L S) {w0 w : World} {A1 A2 A3 : Option Addr} (h2 : Sl w0 w0.heap.size 4 encBr A3 a.branches)
    (hB : Blk w0 gb 26 #[.int .i64 a.letters, .int .i64 a.states, .slice A1 a.accept.length c1, .slice A2 a.leaves.length c2, .slice A3 a.branches.length c3]) {sz : List Nat}
    (hG : FewM w0 w gs sz) (hI : FewI a S sz) (hV : ∀ l ∈ a.leaves, szOf sz l.to = 1)
    {u0 u2 u3 u5 u7 u8 u9 u10 u11 u12 u13 u14 u15 u16 u17 u18 u19 u20 u21 u22 u23 u24 u25 u26 u27 u28 u29 u30 u31 u32 u33 u34 u35 u36 u37 u38 u39 u40 u41 u42 u43 u44 u45 u46 u47 u48 u49 u50 u51 u52 u53 u54 u55 u56 u57 u58 u59 u60 u61 u62 u63 u64 u65 u66 u67 u68 u69 u70 u71 u72 u73 u74 u75 u76 u77 u78 u79 u80 u81 u82 u83 u84 u85 u86 u87 u88 u89 u90 u91 u92 u93 u94 u95 u96 u97 u98 u99 u100 u101 u102 u103 u104 u105 u106 u107 u108 u109 u110 u111 u112 u113 u114 u115 u116 u117 u118 u119 u120 : Value}
    {Q : Exit → Act → World → Prop} (hN : Reg.NoQ Q)
    (hQ : ∀ (x7 x8 x9 x31 x32 x33 x34 x35 x36 x37 x38 x39 x40 x41 x42 x43 x44 x45 x46 x47 x48 x49 x50 x51 x52 x53 x54 x55 x56 x57 x58 x59 x60 x61 x62 x63 x64 x65 x66 x67 x68 x69 x70 x71 x72 x73 x74 x75 x76 x77 x78 x79 x80 x81 x82 x83 x84 x85 x86 x87 x88 x89 x90 : Value) (w' : World) (sz' : List Nat), FewM w0 w' gs sz' → FewI a S sz' → SzFix a capM S sz' →
      Q (.exit 2) ⟨List.toArray (u0 :: (.pointer (some ⟨gb, 0, none⟩)) :: u2 :: u3 :: (.slice (some ⟨gs, 0, none⟩) S S) :: u5 :: (.bool false) :: x7 :: x8 :: x9 :: u10 :: u11 :: u12 :: u13 :: u14 :: u15 :: u16 :: u17 :: u18 :: u19 :: u20 :: u21 :: u22 :: u23 :: u24 :: u25 :: u26 :: u27 :: u28 :: 
      u29 :: u30 :: x31 :: x32 :: x33 :: x34 :: x35 :: x36 :: x37 :: x38 :: x39 :: x40 :: x41 :: x42 :: x43 :: x44 :: x45 :: x46 :: x47 :: x48 :: x49 :: x50 :: x51 :: x52 :: x53 :: x54 :: x55 :: x56 :: x57 :: x58 :: x59 :: x60 :: x61 :: x62 :: x63 :: x64 :: x65 :: 
      x66 :: x67 :: x68 :: x69 :: x70 :: x71 :: x72 :: x73 :: x74 :: x75 :: x76 :: x77 :: x78 :: x79 :: x80 :: x81 :: x82 :: x83 :: x84 :: x85 :: x86 :: x87 :: x88 :: x89 :: x90 :: u91 :: u92 :: u93 :: u94 :: u95 :: u96 :: u97 :: u98 :: u99 :: u100 :: u101 :: u102 :: 
      u103 :: u104 :: u105 :: u106 :: u107 :: u108 :: u109 :: u110 :: u111 :: u112 :: u113 :: u114 :: u115 :: u116 :: u117 :: u118 :: u119 :: u120 :: []), []⟩ w') :
    (Code.loop (loopBody Try.f31 1)).wp Try.prog Q ⟨List.toArray (u0 :: (.pointer (some ⟨gb, 0, none⟩)) :: u2 :: u3 :: (.slice (some ⟨gs, 0, none⟩) S S) :: u5 :: (.bool true) :: u7 :: u8 :: u9 :: u10 :: u11 :: u12 :: u13 :: u14 :: u15 :: u16 :: u17 :: u18 :: u19 :: u20 :: u21 :: u22 :: u23 :: u24 :: u25 :: u26 :: u27 :: u28 :: 
      u29 :: u30 :: u31 :: u32 :: u33 :: u34 :: u35 :: u36 :: u37 :: u38 :: u39 :: u40 :: u41 :: u42 :: u43 :: u44 :: u45 :: u46 :: u47 :: u48 :: u49 :: u50 :: u51 :: u52 :: u53 :: u54 :: u55 :: u56 :: u57 :: u58 :: u59 :: u60 :: u61 :: u62 :: u63 :: u64 :: u65 :: 
      u66 :: u67 :: u68 :: u69 :: u70 :: u71 :: u72 :: u73 :: u74 :: u75 :: u76 :: u77 :: u78 :: u79 :: u80 :: u81 :: u82 :: u83 :: u84 :: u85 :: u86 :: u87 :: u88 :: u89 :: u90 :: u91 :: u92 :: u93 :: u94 :: u95 :: u96 :: u97 :: u98 :: u99 :: u100 :: u101 :: u102 :: 
      u103 :: u104 :: u105 :: u106 :: u107 :: u108 :: u109 :: u110 :: u111 :: u112 :: u113 :: u114 :: u115 :: u116 :: u117 :: u118 :: u119 :: u120 :: []), []⟩ w := by
  conv => arg 2; arg 1; whnf
  have hn := h2.1
  go_loopg [6] (szSum capM sz + 1) (fun m ff wr => ∃ (f : Bool) (sz' : List Nat), ff = .bool f ∧ szSum capM sz' + (if f then 1 else 0) ≤ m ∧ FewM w0 wr gs sz' ∧ FewI a S sz' ∧ Hid (∀ l ∈ a.leaves, szOf sz' l.to = 1) ∧ Hid (f = false → ∀ b ∈ a.branches, Stable capM sz' b))
  case atStart => exact ⟨true, sz, rfl, by simp, hG, hI, hV, fun h => by cases h⟩
  case round =>
    obtain ⟨f, sz', rfl, hm, hG', hI', hH, hE⟩ := hrel
    have hHm := hide hm
    clear hm
    cases f with
    | true =>
      have hHG := hide hG'
      have hHI := hide hI'
      clear hG' hI'
      go_wp2_with fail
      refine few_round hF h2 hB hHG.out hHI.out hH.out (by repeat (first | exact hN | refine Reg.NoQ.then ?_ | refine Reg.NoQ.inBlock ?_)) ?_
      iterate 62 (intro _)
      intro w5 f5 sz5 hG5 hI5 hV5 hR5
      have hs1 := hide hG5
      have hs2 := hide hI5
      have hs3 := hide hV5
      have hs4 := hide hR5
      clear hG5 hI5 hV5 hR5
      go_wp2_with fail
      go_roundg (szSum capM sz5 + (if f5 = true then 1 else 0))
      case measure =>
        have h1 := hHm.out
        cases f5 with
        | true =>
          have := hs4.out.yes rfl
          simp at h1 ⊢
          omega
        | false =>
          have := (hs4.out.no rfl).1
          subst this
          simp at h1 ⊢
          omega
      case rel =>
        refine ⟨f5, sz5, rfl, Nat.le_refl _, hs1.out, hs2.out, hs3.out, fun e b hb => ?_⟩
        obtain ⟨h1, h3⟩ := hs4.out.no e
        subst h1
        rw [List.take_length] at h3
        exact h3 b hb
    | false =>
      have hHG := hide hG'
      have hHI := hide hI'
      have hfix : SzFix a capM S sz' := by
        obtain ⟨lf, fr, h⟩ := hI'
        exact ⟨h.len, h.sound, hH.out, hE.out rfl⟩
      have hFX := hide hfix
      clear hfix hG' hI'
      go_wp2_with fail
      exact hQ _ _ _ _ _ _ _ _ _ _ _ _ _ _ _ _ _ _ _ _ _ _ _ _ _ _ _ _ _ _ _ _ _ _ _ _ _ _ _ _ _ _ _ _ _ _ _ _ _ _ _ _ _ _ _ _ _ _ _ _ _ _ _ wr sz' hHG.out hHI.out hFX.out

/-- The best size so far. -/
def BestN (acc : List Int) (sz : List Nat) (k : Nat) (b : Nat) : Prop :=
  (b = 0 ∧ ∀ q ∈ acc.take k, szOf sz q = 0) ∨ (b ≠ 0 ∧ (∃ q ∈ acc, szOf sz q = b) ∧ ∀ q ∈ acc.take k, szOf sz q ≠ 0 → b ≤ szOf sz q)
theorem BestN.start (acc : List Int) (sz : List Nat) : BestN acc sz 0 0 := .inl ⟨rfl, fun q h => by simp at h⟩
theorem BestN.keep {acc : List Int} {sz : List Nat} {k b n : Nat} {q : Int} (h : BestN acc sz k b) (hx : acc[k]? = some q) (e : szOf sz q = n) (hq : n = 0 ∨ (b ≠ 0 ∧ b ≤ n)) : BestN acc sz (k + 1) b := by
  rcases h with ⟨rfl, h⟩ | ⟨h1, h2, h3⟩
  · refine .inl ⟨rfl, fun q' hq' => ?_⟩
    rcases (mem_take_succ hx).1 hq' with hq' | rfl
    · exact h q' hq'
    · omega
  · refine .inr ⟨h1, h2, fun q' hq' hne => ?_⟩
    rcases (mem_take_succ hx).1 hq' with hq' | rfl
    · exact h3 q' hq' hne
    · omega
theorem BestN.take {acc : List Int} {sz : List Nat} {k b n : Nat} {q : Int} (h : BestN acc sz k b) (hx : acc[k]? = some q) (e : szOf sz q = n) (hn : n ≠ 0) (hb : b = 0 ∨ n < b) : BestN acc sz (k + 1) n := by
  refine .inr ⟨hn, ⟨q, List.mem_of_getElem? hx, e⟩, fun q' hq' hne => ?_⟩
  rcases (mem_take_succ hx).1 hq' with hq' | rfl
  · rcases h with ⟨rfl, h⟩ | ⟨h1, h2, h3⟩
    · exact absurd (h q' hq') hne
    · have := h3 q' hq' hne
      omega
  · omega

set_option maxHeartbeats 8000000 in
set_option maxRecDepth 100000 in
theorem few_best {a : TA} {L S c1 c2 c3 gb gs : Nat} (hF : a.Fits L S) {w0 w : World} {A1 A2 A3 : Option Addr} (h1 : Sl w0 w0.heap.size 1 encI A1 a.accept)
    (hB : Blk w0 gb 26 #[.int .i64 a.letters, .int .i64 a.states, .slice A1 a.accept.length c1, .slice A2 a.leaves.length c2, .slice A3 a.branches.length c3]) {sz : List Nat}
    (hG : FewM w0 w gs sz) (hlen : sz.length = S)
    {u0 u2 u3 u5 u6 u7 u8 u9 u12 u13 u14 u15 u16 u17 u18 u19 u20 u21 u22 u23 u24 u25 u26 u27 u28 u29 u30 u31 u32 u33 u34 u35 u36 u37 u38 u39 u40 u41 u42 u43 u44 u45 u46 u47 u48 u49 u50 u51 u52 u53 u54 u55 u56 u57 u58 u59 u60 u61 u62 u63 u64 u65 u66 u67 u68 u69 u70 u71 u72 u73 u74 u75 u76 u77 u78 u79 u80 u81 u82 u83 u84 u85 u86 u87 u88 u89 u90 u91 u92 u93 u94 u95 u96 u97 u98 u99 u100 u101 u102 u103 u104 u105 u106 u107 u108 u109 u110 u111 u112 u113 u114 u115 u116 u117 u118 u119 u120 : Value}
    {Q : Exit → Act → World → Prop}
    (hQ : ∀ (x11 x12 x91 x92 x93 x94 x95 x96 x97 x98 x99 x100 x101 x102 x103 x104 x105 x106 x107 x108 x109 x110 x111 x112 x113 x114 x115 x116 x117 : Value) (b : Nat), BestN a.accept sz a.accept.length b →
      Q (.exit 6) ⟨List.toArray (u0 :: (.pointer (some ⟨gb, 0, none⟩)) :: u2 :: u3 :: (.slice (some ⟨gs, 0, none⟩) S S) :: u5 :: u6 :: u7 :: u8 :: u9 :: (.int .i64 (b : Int)) :: x11 :: x12 :: u13 :: u14 :: u15 :: u16 :: u17 :: u18 :: u19 :: u20 :: u21 :: u22 :: u23 :: u24 :: u25 :: u26 :: u27 :: 
      u28 :: u29 :: u30 :: u31 :: u32 :: u33 :: u34 :: u35 :: u36 :: u37 :: u38 :: u39 :: u40 :: u41 :: u42 :: u43 :: u44 :: u45 :: u46 :: u47 :: u48 :: u49 :: u50 :: u51 :: u52 :: u53 :: u54 :: u55 :: u56 :: u57 :: u58 :: u59 :: u60 :: u61 :: u62 :: u63 :: u64 :: 
      u65 :: u66 :: u67 :: u68 :: u69 :: u70 :: u71 :: u72 :: u73 :: u74 :: u75 :: u76 :: u77 :: u78 :: u79 :: u80 :: u81 :: u82 :: u83 :: u84 :: u85 :: u86 :: u87 :: u88 :: u89 :: u90 :: x91 :: x92 :: x93 :: x94 :: x95 :: x96 :: x97 :: x98 :: x99 :: x100 :: x101 :: 
      x102 :: x103 :: x104 :: x105 :: x106 :: x107 :: x108 :: x109 :: x110 :: x111 :: x112 :: x113 :: x114 :: x115 :: x116 :: x117 :: u118 :: u119 :: u120 :: []), []⟩ w) :
    (Code.loop (loopBody Try.f31 3)).wp Try.prog Q ⟨List.toArray (u0 :: (.pointer (some ⟨gb, 0, none⟩)) :: u2 :: u3 :: (.slice (some ⟨gs, 0, none⟩) S S) :: u5 :: u6 :: u7 :: u8 :: u9 :: (.int .i64 0) :: (.int .i64 0) :: u12 :: u13 :: u14 :: u15 :: u16 :: u17 :: u18 :: u19 :: u20 :: u21 :: u22 :: u23 :: u24 :: u25 :: u26 :: 
      u27 :: u28 :: u29 :: u30 :: u31 :: u32 :: u33 :: u34 :: u35 :: u36 :: u37 :: u38 :: u39 :: u40 :: u41 :: u42 :: u43 :: u44 :: u45 :: u46 :: u47 :: u48 :: u49 :: u50 :: u51 :: u52 :: u53 :: u54 :: u55 :: u56 :: u57 :: u58 :: u59 :: u60 :: u61 :: u62 :: u63 :: 
      u64 :: u65 :: u66 :: u67 :: u68 :: u69 :: u70 :: u71 :: u72 :: u73 :: u74 :: u75 :: u76 :: u77 :: u78 :: u79 :: u80 :: u81 :: u82 :: u83 :: u84 :: u85 :: u86 :: u87 :: u88 :: u89 :: u90 :: u91 :: u92 :: u93 :: u94 :: u95 :: u96 :: u97 :: u98 :: u99 :: u100 :: 
      u101 :: u102 :: u103 :: u104 :: u105 :: u106 :: u107 :: u108 :: u109 :: u110 :: u111 :: u112 :: u113 :: u114 :: u115 :: u116 :: u117 :: u118 :: u119 :: u120 :: []), []⟩ w := by
  conv => arg 2; arg 1; whnf
  have hn := h1.1
  have hS64 := hF.S64
  have hcb := (hB.kept (Kept.of_below hG.below (fun _ => False)) id).cell
  go_loop [10, 11] (fun bb ii => ∃ (k b : Nat), ii = .int .i64 (k : Int) ∧ bb = .int .i64 (b : Int) ∧ k ≤ a.accept.length ∧ BestN a.accept sz k b) (fun _ ii => a.accept.length - (intOf ii).toNat)
  case atStart => exact ⟨0, 0, rfl, rfl, Nat.zero_le _, BestN.start _ _⟩
  case round =>
    obtain ⟨k, b, rfl, rfl, hk, hb⟩ := hrel
    have hHB := hide hb
    clear hb
    by_cases hlt : k < a.accept.length
    · obtain ⟨bq, off, x, rfl, hbk, hx, hc⟩ := h1.at hlt
      obtain ⟨q, rfl, hqS⟩ := hF.acc x (List.mem_of_getElem? hx)
      have hc0 := (hG.below.cell (by exact hbk)).trans (hc 0 (by omega))
      simp only [Nat.mul_one, Nat.add_zero, encI] at hc0
      obtain ⟨n, hn'⟩ := get_lt (l := sz) (i := q) (by rw [hlen]; exact hqS)
      have hcs := hG.cs hn'
      have hE := hide (szOf_get hn')
      have hX := hide hx
      clear hx hc hn'
      by_cases hn0 : n = 0
      · have hz : ¬ ((0 : Int) < (n : Int)) := by omega
        go_wp2_with fail
        exact ⟨⟨k + 1, b, by go_num, rfl, by omega, hHB.out.keep hX.out hE.out (.inl hn0)⟩, by simp [intOf]; omega⟩
      · have hz : ((0 : Int) < (n : Int)) := by omega
        by_cases hb0 : b = 0
        · have hzb : ((b : Int) == 0) = true := by simp; omega
          go_wp2_with fail
          exact ⟨⟨k + 1, n, by go_num, rfl, by omega, hHB.out.take hX.out hE.out hn0 (.inl hb0)⟩, by simp [intOf]; omega⟩
        · have hzb : ((b : Int) == 0) = false := by simp; omega
          by_cases hnb : n < b
          · have hnb' : (n : Int) < (b : Int) := by omega
            have hNB := hide hnb
            clear hnb
            go_wp2_with fail
            exact ⟨⟨k + 1, n, by go_num, rfl, by omega, hHB.out.take hX.out hE.out hn0 (.inr hNB.out)⟩, by simp [intOf]; omega⟩
          · have hnb' : ¬ ((n : Int) < (b : Int)) := by omega
            have hNB := hide hnb
            clear hnb
            go_wp2_with fail
            exact ⟨⟨k + 1, b, by go_num, rfl, by omega, hHB.out.keep hX.out hE.out (.inr ⟨hb0, by have := hNB.out; omega⟩)⟩, by simp [intOf]; omega⟩
    · have e : k = a.accept.length := by omega
      go_wp2_with fail
      subst e
      exact hHB.out

/-- What Fewest returns. -/
def FewR (a : TA) (n : Nat) : Prop := (n = 0 ∧ ∀ t, a.lang t = false) ∨ (0 < n ∧ (∃ t, a.lang t = true ∧ (n < 4097 → t.nodes = n)) ∧ ∀ t, a.lang t = true → n ≤ t.nodes)
theorem few_of {a : TA} {L S n : Nat} (hF : a.Fits L S) {sz : List Nat} (hX : SzFix a capM S sz) (h : BestN a.accept sz a.accept.length n) : FewR a n := by
  unfold BestN at h
  rw [List.take_length] at h
  rcases h with ⟨rfl, h⟩ | ⟨h1, ⟨q, hq, e⟩, h3⟩
  · exact .inl ⟨rfl, none_acc hF hX h⟩
  · refine .inr ⟨by omega, ?_, fun t ht => ?_⟩
    · obtain ⟨k, rfl, _⟩ := hF.acc q hq
      obtain ⟨_, t, ht, hn, -⟩ := hX.tree (q := k) (by omega)
      exact ⟨t, (lang_iff hF t).2 ⟨k, hq, ht⟩, fun hlt => by rw [hn (by unfold capM; omega), e]⟩
    · rw [← e]
      exact best_least hF hX (fun q' hq' hne => by rw [e]; exact h3 q' hq' hne) ht

set_option maxHeartbeats 8000000 in
set_option maxRecDepth 100000 in
theorem fewest_any {v : Value} {a : TA} {w : World} (h : IsTA w w.heap.size v a) (hv : a.valid = true) :
    Calls Try.prog 31 #[v] w (Ret fun r w' => Below w.heap.size w w' ∧ ∃ n : Nat, r = .tuple #[.int .i64 (n : Int), .bool (decide ((0 : Int) < (n : Int)))] ∧ FewR a n) := by
  have hF := TA.fits hv
  obtain ⟨A1, c1, A2, c2, A3, c3, rfl, h1, h2, h3⟩ := h
  obtain ⟨w1, hw1, hb1, hB1, hk1⟩ := box_blk w #[.int .i64 a.letters, .int .i64 a.states, .slice A1 a.accept.length c1, .slice A2 a.leaves.length c2, .slice A3 a.branches.length c3] 26
  have hsz1 := hb1.size
  have hS64 := hF.S64
  obtain ⟨gs, w2, hmk, hrow, hb2, hgs⟩ := mk_row w1 a.states.toNat (by omega)
  rw [← hF.hS] at hmk
  have hcb := hB1.cell
  have h1s := hide ((h1.below hb1).mono (B' := w1.heap.size) (by omega))
  have h2s := hide ((h2.below hb1).mono (B' := w1.heap.size) (by omega))
  have h3s := hide ((h3.below hb1).mono (B' := w1.heap.size) (by omega))
  have hFF := hide hF
  have hG0 : FewM w1 w2 gs (List.replicate a.states.toNat 0) := ⟨hb2, by rw [← rowZ_eq]; unfold rowZ; rw [madeCells_one]; exact hrow, hgs⟩
  have hI0 : FewI a a.states.toNat (List.replicate a.states.toNat 0) := ⟨_, _, GroI.zero a capM _ (List.replicate a.states.toNat 0) (List.replicate a.states.toNat ⟨0, 0, 0, 0⟩) (by simp) (by simp)⟩
  have hGG0 := hide hG0
  have hII0 := hide hI0
  clear h1 h2 h3 hF hrow hG0 hI0
  go_enter Try.func31, Try.ntmps31
  go_wp2_with fail
  refine few_leaves hFF.out h2s.out hB1 hGG0.out hII0.out ?_
  iterate 16 (intro _)
  intro w3 sz3 hG3 hI3 hV3
  have hGG3 := hide hG3
  have hII3 := hide hI3
  have hVV3 := hide hV3
  clear hG3 hI3 hV3
  go_wp2_with fail
  refine few_rounds hFF.out h3s.out hB1 hGG3.out hII3.out hVV3.out (by repeat (first | exact Reg.NoQ.body (fun _ _ h => h) (fun _ h => h) | refine Reg.NoQ.then ?_ | refine Reg.NoQ.inBlock ?_)) ?_
  iterate 63 (intro _)
  intro w4 sz4 hG4 hI4 hX4
  have hGG4 := hide hG4
  have hXX4 := hide hX4
  have hbel := hide (hb1.trans (hG4.below.mono hsz1))
  clear hG4 hI4 hX4
  go_wp2_with fail
  refine few_best hFF.out h1s.out hB1 hGG4.out hXX4.out.len ?_
  iterate 29 (intro _)
  intro n hb
  have hBB := hide (few_of hFF.out hXX4.out hb)
  clear hb
  go_wp2_with fail
  exact bodyPost_ret (v := .tuple #[.int .i64 (n : Int), .bool (decide ((0 : Int) < (n : Int)))]) (by simp [results, Try.results31, go_sem]) rfl ⟨hbel.out, n, rfl, hBB.out⟩
end Go.Proofs.Ytnimlcbgeiajiaa

namespace Go.Proofs.Ytnimlcbgeiajiaa
open Go.RowKit

set_option maxHeartbeats 8000000 in
set_option maxRecDepth 100000 in
theorem lawWitnesses {v : Value} {a : TA} {w : World} (h : IsTA w w.heap.size v a) :
    Calls Try.prog 8 #[v] w (Ret fun v w' => v = .bool true ∧ Below w.heap.size w w') := by
  obtain ⟨A1, c1, A2, c2, A3, c3, rfl, h1, h2, h3⟩ := h
  obtain ⟨w1, hw1, hb1, hB1, hk1⟩ := box_blk w #[.int .i64 a.letters, .int .i64 a.states, .slice A1 a.accept.length c1, .slice A2 a.leaves.length c2, .slice A3 a.branches.length c3] 26
  have hsz1 := hb1.size
  have hcb1 := hB1.cell
  have hT : IsTA w1 w1.heap.size (.agg #[.int .i64 a.letters, .int .i64 a.states, .slice A1 a.accept.length c1, .slice A2 a.leaves.length c2, .slice A3 a.branches.length c3]) a :=
    IsTA.keep ⟨A1, c1, A2, c2, A3, c3, rfl, h1, h2, h3⟩ (fun _ hp => hb1.cell hp) (by omega)
  have hTT := hide hT
  clear hT h1 h2 h3
  go_enter Try.func8, Try.ntmps8
  go_wp2_with fail
  refine (Big_any _ a w1 hTT.out).mono ?_
  rintro e w3 ⟨rfl, hb3⟩
  have hb03 : Below w.heap.size w w3 := hb1.trans (hb3.mono (by omega))
  have hB13 := hB1.kept (Kept.of_below hb3 (fun _ => False)) id
  have hcb3 := hB13.cell
  have hsz3 := hb3.size
  cases hbig : a.big with
  | true =>
    go_wp2_with fail
    refine Calls.ret (known_any w3) ?_
    rintro v w4 ⟨rfl, hb4⟩
    have hb04 := hide (hb03.trans (hb4.mono (by omega)))
    clear hb4
    go_wp2_with fail
    go_ret
    exact ⟨rfl, hb04.out⟩
  | false =>
    have hT3 := hide (hTT.out.keep (fun _ hp => hb3.cell hp) hsz3)
    go_wp2_with fail
    refine Calls.ret (witness_any hT3.out) ?_
    rintro v w4 ⟨hb4, hwit⟩
    have hb04 : Below w.heap.size w w4 := hb03.trans (hb4.mono (by omega))
    have hsz4 := hb4.size
    have hB14 := hB13.kept (Kept.of_below hb4 (fun _ => False)) id
    have hcb4 := hB14.cell
    have hT4 := hide (hT3.out.keep (fun _ hp => hb4.cell hp) hsz4)
    rcases hwit with ⟨hv, rfl⟩ | ⟨hv, hno, rfl⟩ | ⟨hv, hex, hbig2, rfl⟩ | ⟨hv, t, s1, s2, rfl, ht1, ht2, ht3, ht4, ht5, ht6⟩
    · have hV := hide hv
      clear hv
      go_wp2_with fail
      refine (refValidate_any _ _ _ hT4.out).mono ?_
      rintro e w5 ⟨rfl, hb5⟩
      rw [hV.out]
      simp only [errno]
      have hb05 : Below w.heap.size w w5 := hb04.trans (hb5.mono (by omega))
      have hsz5 := hb5.size
      go_wp2_with fail
      refine Calls.ret (known_any w5) ?_
      rintro v w6 ⟨rfl, hb6⟩
      have hb06 := hide (hb05.trans (hb6.mono (by omega)))
      clear hb6
      go_wp2_with fail
      go_ret
      exact ⟨rfl, hb06.out⟩
    · have hV := hide hv
      have hNO := hide hno
      clear hv hno
      go_wp2_with fail
      refine (refValidate_any _ _ _ hT4.out).mono ?_
      rintro e w5 ⟨rfl, hb5⟩
      rw [hV.out]
      simp only [errno]
      have hb05 : Below w.heap.size w w5 := hb04.trans (hb5.mono (by omega))
      have hsz5 := hb5.size
      have hcb5 := (hB14.kept (Kept.of_below hb5 (fun _ => False)) id).cell
      have hT5 := hide (hT4.out.keep (fun _ hp => hb5.cell hp) hsz5)
      go_wp2_with fail
      refine Calls.ret (fewest_any hT5.out hV.out) ?_
      rintro v w6 ⟨hb6, n, rfl, hfew⟩
      have hb06 : Below w.heap.size w w6 := hb05.trans (hb6.mono (by omega))
      have hsz6 := hb6.size
      have hn : n = 0 := by
        rcases hfew with ⟨h, -⟩ | ⟨-, ⟨t, ht, -⟩, -⟩
        · exact h
        · rw [hNO.out t] at ht; cases ht
      subst hn
      clear hfew
      go_wp2_with fail
      refine Calls.ret (known_any w6) ?_
      rintro v w7 ⟨rfl, hb7⟩
      have hb07 := hide (hb06.trans (hb7.mono (by omega)))
      clear hb7
      go_wp2_with fail
      go_ret
      exact ⟨rfl, hb07.out⟩
    · have hV := hide hv
      have hEX := hide hex
      have hBIG := hide hbig2
      clear hv hex hbig2
      go_wp2_with fail
      refine (refValidate_any _ _ _ hT4.out).mono ?_
      rintro e w5 ⟨rfl, hb5⟩
      rw [hV.out]
      simp only [errno]
      have hb05 : Below w.heap.size w w5 := hb04.trans (hb5.mono (by omega))
      have hsz5 := hb5.size
      have hcb5 := (hB14.kept (Kept.of_below hb5 (fun _ => False)) id).cell
      have hT5 := hide (hT4.out.keep (fun _ hp => hb5.cell hp) hsz5)
      go_wp2_with fail
      refine Calls.ret (fewest_any hT5.out hV.out) ?_
      rintro v w6 ⟨hb6, n, rfl, hfew⟩
      have hb06 : Below w.heap.size w w6 := hb05.trans (hb6.mono (by omega))
      have hsz6 := hb6.size
      have hn : (4095 : Int) < (n : Int) := by
        rcases hfew with ⟨-, h⟩ | ⟨-, ⟨t, ht, hn⟩, -⟩
        · obtain ⟨t, ht⟩ := hEX.out
          rw [h t] at ht; cases ht
        · have := hBIG.out t ht
          by_cases h : n < 4097
          · have := hn h; omega
          · omega
      clear hfew
      go_wp2_with fail
      refine Calls.ret (known_any w6) ?_
      rintro v w7 ⟨rfl, hb7⟩
      have hb07 := hide (hb06.trans (hb7.mono (by omega)))
      clear hb7
      go_wp2_with fail
      go_ret
      exact ⟨rfl, hb07.out⟩
    · have hV := hide hv
      obtain ⟨E1, d1, rfl, hq1⟩ := sl_ints ht5 (t.sh_len).symm
      obtain ⟨E2, d2, rfl, hq2⟩ := sl_ints ht6 (t.lb_len).symm
      have hQ1 := hide hq1
      have hQ2 := hide hq2
      have hAT := hide (accT_tree hv ht2 ht3 ht1)
      have hL4 := hide ht4
      have hL1 := hide ht1
      have hL3 := hide ht3
      have htn := hq1.1
      have hlen : t.sh.length = t.nodes := t.sh_len
      have hlenH := hide hlen
      clear hv ht1 ht2 ht3 ht4 ht5 ht6 hq1 hq2 hlen
      go_wp2_with fail
      refine (refValidate_any _ _ _ hT4.out).mono ?_
      rintro e w5 ⟨rfl, hb5⟩
      rw [hV.out]
      simp only [errno]
      have hb05 : Below w.heap.size w w5 := hb04.trans (hb5.mono (by omega))
      have hsz5 := hb5.size
      have hB15 := hB14.kept (Kept.of_below hb5 (fun _ => False)) id
      have hcb5 := hB15.cell
      have hT5 := hide (hT4.out.keep (fun _ hp => hb5.cell hp) hsz5)
      have hQ15 := (hQ1.out.below hb5)
      have hQ25 := (hQ2.out.below hb5)
      have hH15 := hide hQ15
      have hH25 := hide hQ25
      clear hQ15 hQ25
      go_wp2_with fail
      refine Calls.ret (fewest_any hT5.out hV.out) ?_
      rintro v w6 ⟨hb6, n, rfl, hfew⟩
      have hb06 : Below w.heap.size w w6 := hb05.trans (hb6.mono (by omega))
      have hsz6 := hb6.size
      have hB16 := hB15.kept (Kept.of_below hb6 (fun _ => False)) id
      have hcb6 := hB16.cell
      have hT6 := hide (hT5.out.keep (fun _ hp => hb6.cell hp) hsz6)
      have hQ16 := hide ((hH15.out.mono hsz5).below hb6)
      have hQ26 := hide ((hH25.out.mono hsz5).below hb6)
      have hn : n = t.sh.length := by
        rw [hlenH.out]
        have h3 := hL3.out
        rcases hfew with ⟨-, h⟩ | ⟨-, ⟨t2, ht2, hn⟩, hle⟩
        · have := hL1.out
          rw [h t] at this; cases this
        · have h1 := hle t hL1.out
          have h2 := hL4.out t2 ht2
          have h4 := hn (by omega)
          omega
      subst hn
      have hpos : (0 : Int) < (t.sh.length : Int) := by have := t.pos; have := hlenH.out; omega
      have hsm : ¬ ((4095 : Int) < (t.sh.length : Int)) := by have := hL3.out; have := hlenH.out; omega
      clear hfew
      go_wp2_with fail
      refine Calls.ret (refAccepts_any hT6.out hQ16.out hQ26.out (by omega) (by omega)) ?_
      rintro v w7 ⟨rfl, hb7⟩
      have hb07 : Below w.heap.size w w7 := hb06.trans (hb7.mono (by omega))
      have hsz7 := hb7.size
      rw [hAT.out]
      go_wp2_with fail
      refine Calls.ret (known_any w7) ?_
      rintro v w8 ⟨rfl, hb8⟩
      have hb08 := hide (hb07.trans (hb8.mono (by omega)))
      clear hb8
      go_wp2_with fail
      go_ret
      exact ⟨rfl, hb08.out⟩
end Go.Proofs.Ytnimlcbgeiajiaa

namespace Go.Proofs.Ytnimlcbgeiajiaa
open Go.RowKit

set_option maxHeartbeats 4000000 in
set_option maxRecDepth 100000 in
theorem lawValidates (v : Value) (a : TA) (w : World) (h : IsTA w w.heap.size v a) :
    Calls Try.prog 3 #[v] w (Ret fun v w' => v = .bool true ∧ Below w.heap.size w w') := by
  obtain ⟨A1, c1, A2, c2, A3, c3, rfl, h1, h2, h3⟩ := h
  obtain ⟨w1, hw1, hb1, hB1, hk1⟩ := box_blk w #[.int .i64 a.letters, .int .i64 a.states, .slice A1 a.accept.length c1, .slice A2 a.leaves.length c2, .slice A3 a.branches.length c3] 26
  have hsz1 := hb1.size
  have hcb := hB1.cell
  have hT : IsTA w1 w1.heap.size (.agg #[.int .i64 a.letters, .int .i64 a.states, .slice A1 a.accept.length c1, .slice A2 a.leaves.length c2, .slice A3 a.branches.length c3]) a :=
    IsTA.keep ⟨A1, c1, A2, c2, A3, c3, rfl, h1, h2, h3⟩ (fun _ hp => hb1.cell hp) hsz1
  have hTT := hide hT
  clear hT h1 h2 h3
  go_enter Try.func3, Try.ntmps3
  go_wp2_with fail
  refine (Big_any _ a w1 hTT.out).mono ?_
  rintro e w2 ⟨rfl, hb2⟩
  have hb02 : Below w.heap.size w w2 := hb1.trans (hb2.mono hsz1)
  have hB2 := hB1.below hb2
  have hcb2 := hB2.cell
  have hsz2 := hb2.size
  cases hbig : a.big with
  | true =>
    go_wp2_with fail
    refine Calls.ret (known_any w2) ?_
    rintro v w3 ⟨rfl, hb3⟩
    have hb03 := hide (hb02.trans (hb3.mono (by omega)))
    clear hb3
    go_wp2_with fail
    go_ret
    exact ⟨rfl, hb03.out⟩
  | false =>
    have hT2 := hide (hTT.out.keep (fun _ hp => hb2.cell hp) hsz2)
    go_wp2_with fail
    refine Reg.region_cut [0, 1, 0, 7, 15, 31, 63, 127, 255] [0, 2, 1, 3, 4, 5, 6, 7, 8] (by kernel_rfl) (by repeat (first | exact Reg.NoQ.body (fun _ _ h => h) (fun _ h => h) | refine Reg.NoQ.then ?_ | refine Reg.NoQ.inBlock ?_)) ?_
    refine Reg.rest_walk' [0, 2] [1, 3, 4, 5, 6, 7, 8] rfl (by kernel_rfl) ?_
    intro Qf hQf
    go_wp2_with fail
    rw [List.filterMap_nil]
    go_wp2_with fail
    refine Reg.rest_act' 1 [3, 4, 5, 6, 7, 8] [2] rfl (by kernel_rfl) ?_
    intro Qf hQf
    simp only [List.getElem_toArray, List.getElem_cons_succ, List.getElem_cons_zero]
    have hT3 := hide (hT2.out.below (drew_below w2))
    go_wp2_with (go_at_call 18; refine (validate_any _ a w2.drew hT3.out).mono ?_; rintro e w3 ⟨rfl, hb3⟩)
    refine ⟨Reg.same_below hb3 [2] rfl, ?_⟩
    have hb23 : Below w2.heap.size w2 w3 := (drew_below w2).trans hb3
    have hT4 := hide ((hTT.out.keep (fun _ hp => hb2.cell hp) hsz2).keep (fun _ hp => hb23.cell hp) hb23.size)
    have hb03 := hb02.trans (hb23.mono (by omega))
    have hsz3 := hb23.size
    refine Reg.rest_act' 3 [4, 5, 6, 7, 8] [] rfl (by kernel_rfl) ?_
    intro Qf hQf
    simp only [List.getElem_toArray, List.getElem_cons_succ, List.getElem_cons_zero]
    go_wp2_with (go_at_call 19; refine (refValidate_any _ a w3 hT4.out).mono ?_; rintro e w4 ⟨rfl, hb4⟩)
    refine ⟨fun r hr => absurd hr (List.not_mem_nil), ?_⟩
    have hb04 := hb03.trans (hb4.mono (by omega))
    have hsz4 := hb4.size
    generalize errno a.valid = er at *
    have heq : (er == er) = true := by simp
    refine Reg.rest_walk' [4, 5] [6, 7, 8] rfl (by kernel_rfl) ?_
    intro Qf hQf
    go_wp2_with fail
    rw [List.filterMap_nil]
    go_wp2_with fail
    refine Reg.rest_act' 6 [7, 8] [] rfl (by kernel_rfl) ?_
    intro Qf hQf
    simp only [List.getElem_toArray, List.getElem_cons_succ, List.getElem_cons_zero]
    go_wp2_with (go_at_call 17; refine Calls.ret (known_any w4) ?_; rintro v w5 ⟨rfl, hb5⟩)
    refine ⟨fun r hr => absurd hr (List.not_mem_nil), ?_⟩
    have hb05 := hide (hb04.trans (hb5.mono (by omega)))
    refine Reg.rest_walk' [7, 8] [] rfl (by kernel_rfl) ?_
    intro Qf hQf
    go_wp2_with fail
    rw [List.filterMap_nil]
    go_wp2_with fail
    refine Reg.rest_end ?_
    go_wp2_with fail
    go_ret
    exact ⟨rfl, hb05.out⟩
end Go.Proofs.Ytnimlcbgeiajiaa

namespace Go.Proofs.Ytnimlcbgeiajiaa
open Go.RowKit Go.ChangeShapes Go.WideShapes Go.Deep

section
variable {H : Type} {enc : TypeId × Value → H} {P : Program} {w : World} {base : Nat} {spare : Nat → Bool} {held : Bool}
theorem cell_lt {w : World} {a : Addr} {v : Value} (h : w.cell? a = some v) : a.block < w.heap.size := by
  unfold World.cell? at h
  split at h
  · rename_i hh
    exact (Array.getElem?_eq_some_iff.1 hh).1
  · cases h
theorem add_plain_ (b off i : Nat) : (⟨b, off, none⟩ : Addr).add i = ⟨b, off + i, none⟩ := by
  unfold Addr.add
  split <;> simp_all
/-- A list whose elements are chosen one by one. -/
theorem choose_list {D : Type} {p : Nat → D → Prop} : ∀ n : Nat, (∀ i, i < n → ∃ d, p i d) → ∃ l : List D, l.length = n ∧ ∀ (i : Nat) (d : D), l[i]? = some d → p i d
  | 0, _ => ⟨[], rfl, fun i d h => by simp at h⟩
  | n + 1, h => by
    obtain ⟨l, hl, hp⟩ := choose_list n fun i hi => h i (by omega)
    obtain ⟨d, hd⟩ := h n (by omega)
    refine ⟨l ++ [d], by simp [hl], fun i x hx => ?_⟩
    by_cases hi : i < l.length
    · rw [List.getElem?_append_left hi] at hx
      exact hp i x hx
    · have h1 := lt_of_get hx
      simp at h1
      obtain rfl : i = l.length := by omega
      simp at hx
      subst hx
      rw [hl]
      exact hd
/-- A slice whose elements are known cell by cell. -/
theorem sl_of {D : Type} {sz : Nat} {enc : D → Nat → Value} {a : Addr} {len : Nat} (hs : 0 < sz) (hlen : len ≤ 9223372036854775807) (h : ∀ i, i < len → ∃ d : D, ∀ j, j < sz → w.cell? (a.add (i * sz + j)) = some (enc d j)) :
    ∃ ds : List D, ds.length = len ∧ Sl w w.heap.size sz enc (some a) ds := by
  obtain ⟨ds, hl, hd⟩ := choose_list len h
  refine ⟨ds, hl, by omega, fun hne => ?_⟩
  obtain ⟨b, off, spot⟩ := a
  obtain ⟨d0, hd0⟩ := get_lt (l := ds) (i := 0) (by cases ds; exact absurd rfl hne; simp)
  have h0 := hd 0 d0 hd0 0 hs
  have hspot : spot = none := by simpa [Addr.add] using World.cell?_spot h0
  subst hspot
  have hb := cell_lt h0
  rw [add_plain_] at hb
  refine ⟨b, off, rfl, hb, fun k d hk j hj => ?_⟩
  have := hd k d hk j hj
  rw [add_plain_] at this
  rw [Nat.add_assoc]
  exact this
end

section
variable {H : Type} {enc : TypeId × Value → H} {w : World} {base : Nat} {spare : Nat → Bool} {held : Bool}
theorem intAt {cs : List Value} {n i : Nat} {x : Option (DataW H × List MemPlace)} (h : DataW.trod enc Try.prog w base spare held n 3 ((cs.drop i).take 1) = x) (hx : x.isSome = true) : ∃ z : Int, cs[i]? = some (.int .i64 z) := by
  obtain ⟨y, rfl⟩ := Option.isSome_iff_exists.1 hx
  obtain ⟨z, hz, _⟩ := DataW.trod_int Try.underlying3 h
  refine ⟨z, ?_⟩
  have h1 : ((cs.drop i).take 1)[0]? = some (.int .i64 z) := by rw [hz]; rfl
  rw [List.getElem?_take] at h1
  simpa using h1
theorem ints_in {fuel : Nat} {v : Value} {x : DataW H × List MemPlace} (h : DataW.trod enc Try.prog w base spare held fuel 22 [v] = some x) : ∃ A c, ∃ xs : List Int, v = .slice A xs.length c ∧ Sl w w.heap.size 1 encI A xs := by
  rcases open_ints Try.underlying22 Try.underlying3 (by kernel_rfl) h with ⟨h1, -⟩ | ⟨a, len, cap, zs, h1, -, hlc, hcm, hzl, -, hc, -⟩
  · injection h1 with h1 _
    subst h1
    exact ⟨none, 0, [], rfl, Sl.nil rfl⟩
  · injection h1 with h1 _
    subst h1
    have hle : len ≤ zs.length := by rw [hzl]; split <;> omega
    obtain ⟨ds, hl, hs⟩ := sl_of (w := w) (enc := encI) (a := a) (len := len) (sz := 1) (by omega) (by unfold maxLen at hcm; omega) (fun i hi => ⟨zs.getD i 0, fun j hj => by
      have : j = 0 := by omega
      subst this
      rw [Nat.mul_one, Nat.add_zero]
      exact hc i (by omega)⟩)
    exact ⟨some a, cap, ds, by rw [hl], hs⟩
theorem leaves_in {fuel : Nat} {v : Value} {x : DataW H × List MemPlace} (h : DataW.trod enc Try.prog w base spare held fuel 23 [v] = some x) : ∃ A c, ∃ xs : List Leaf, v = .slice A xs.length c ∧ Sl w w.heap.size 2 encL A xs := by
  rcases open_slice Try.underlying23 h with ⟨h1, -⟩ | ⟨a, len, cap, m, n, D, Pl, h1, -, hlc, hcm, hm, -, hc⟩
  · injection h1 with h1 _
    subst h1
    exact ⟨none, 0, [], rfl, Sl.nil rfl⟩
  · injection h1 with h1 _
    subst h1
    have hC : Try.prog.cellsOf 36 = 2 := by kernel_rfl
    rw [hC] at hc
    have hle : len ≤ m := by rw [hm]; split <;> omega
    obtain ⟨ds, hl, hs⟩ := sl_of (w := w) (enc := encL) (a := a) (len := len) (sz := 2) (by omega) (by unfold maxLen at hcm; omega) (fun i hi => by
      obtain ⟨cs, hcs, ht⟩ := hc i (by omega)
      obtain ⟨_, hlen, hcell⟩ := World.cells?_some hcs
      obtain ⟨xs, n', _, _, _, hxl, hf⟩ := DataW.trod_struct Try.underlying36 ht
      have hxs : ∀ k, k < 2 → (xs[k]?).isSome = true := fun k hk => by
        have : xs.length = 2 := hxl
        rw [List.getElem?_eq_getElem (by omega)]
        rfl
      have h3 : Try.prog.cellsOf 3 = 1 := by kernel_rfl
      have f0 : DataW.trod enc Try.prog w base spare held n' 3 ((cs.drop 0).take (Try.prog.cellsOf 3)) = xs[0]? := hf 0 _ rfl
      have f1 : DataW.trod enc Try.prog w base spare held n' 3 ((cs.drop 1).take (Try.prog.cellsOf 3)) = xs[1]? := hf 1 _ rfl
      rw [h3] at f0 f1
      obtain ⟨z0, e0⟩ := intAt f0 (hxs 0 (by omega))
      obtain ⟨z1, e1⟩ := intAt f1 (hxs 1 (by omega))
      refine ⟨⟨z0, z1⟩, fun j hj => ?_⟩
      have g := hcell j hj
      have hadd : (a.add (i * 2)).add j = a.add (i * 2 + j) := Go.Deep.add_add ..
      rw [hadd] at g
      rw [g]
      match j, hj with
      | 0, _ => exact e0
      | 1, _ => exact e1)
    exact ⟨some a, cap, ds, by rw [hl], hs⟩
theorem branches_in {fuel : Nat} {v : Value} {x : DataW H × List MemPlace} (h : DataW.trod enc Try.prog w base spare held fuel 24 [v] = some x) : ∃ A c, ∃ xs : List Branch, v = .slice A xs.length c ∧ Sl w w.heap.size 4 encBr A xs := by
  rcases open_slice Try.underlying24 h with ⟨h1, -⟩ | ⟨a, len, cap, m, n, D, Pl, h1, -, hlc, hcm, hm, -, hc⟩
  · injection h1 with h1 _
    subst h1
    exact ⟨none, 0, [], rfl, Sl.nil rfl⟩
  · injection h1 with h1 _
    subst h1
    have hC : Try.prog.cellsOf 59 = 4 := by kernel_rfl
    rw [hC] at hc
    have hle : len ≤ m := by rw [hm]; split <;> omega
    obtain ⟨ds, hl, hs⟩ := sl_of (w := w) (enc := encBr) (a := a) (len := len) (sz := 4) (by omega) (by unfold maxLen at hcm; omega) (fun i hi => by
      obtain ⟨cs, hcs, ht⟩ := hc i (by omega)
      obtain ⟨_, hlen, hcell⟩ := World.cells?_some hcs
      obtain ⟨xs, n', _, _, _, hxl, hf⟩ := DataW.trod_struct Try.underlying59 ht
      have hxs : ∀ k, k < 4 → (xs[k]?).isSome = true := fun k hk => by
        have : xs.length = 4 := hxl
        rw [List.getElem?_eq_getElem (by omega)]
        rfl
      have h3 : Try.prog.cellsOf 3 = 1 := by kernel_rfl
      have f0 : DataW.trod enc Try.prog w base spare held n' 3 ((cs.drop 0).take (Try.prog.cellsOf 3)) = xs[0]? := hf 0 _ rfl
      have f1 : DataW.trod enc Try.prog w base spare held n' 3 ((cs.drop 1).take (Try.prog.cellsOf 3)) = xs[1]? := hf 1 _ rfl
      have f2 : DataW.trod enc Try.prog w base spare held n' 3 ((cs.drop 2).take (Try.prog.cellsOf 3)) = xs[2]? := hf 2 _ rfl
      have f3 : DataW.trod enc Try.prog w base spare held n' 3 ((cs.drop 3).take (Try.prog.cellsOf 3)) = xs[3]? := hf 3 _ rfl
      rw [h3] at f0 f1 f2 f3
      obtain ⟨z0, e0⟩ := intAt f0 (hxs 0 (by omega))
      obtain ⟨z1, e1⟩ := intAt f1 (hxs 1 (by omega))
      obtain ⟨z2, e2⟩ := intAt f2 (hxs 2 (by omega))
      obtain ⟨z3, e3⟩ := intAt f3 (hxs 3 (by omega))
      refine ⟨⟨z0, z1, z2, z3⟩, fun j hj => ?_⟩
      have g := hcell j hj
      have hadd : (a.add (i * 4)).add j = a.add (i * 4 + j) := Go.Deep.add_add ..
      rw [hadd] at g
      rw [g]
      match j, hj with
      | 0, _ => exact e0
      | 1, _ => exact e1
      | 2, _ => exact e2
      | 3, _ => exact e3)
    exact ⟨some a, cap, ds, by rw [hl], hs⟩
set_option maxRecDepth 100000 in
/-- An automaton that comes in. -/
theorem ta_in {r : Go.Reach} {b0 : Nat} {v : Value} {d : DataW H} {p : List MemPlace} (hv : Value.okWide Try.prog w r b0 26 v) (h : DataW.Trod enc Try.prog w base spare held 26 v d p) : ∃ a : TA, IsTA w w.heap.size v a := by
  obtain ⟨cs, rfl, hsz⟩ := okWide_struct Try.underlying26 hv
  obtain ⟨l⟩ := cs
  have hC : Try.prog.cellsOf 26 = 5 := by kernel_rfl
  match l, hsz.trans hC with
  | [c0, c1, c2, c3, c4], _ =>
    obtain ⟨fuel, hf⟩ := h
    obtain ⟨xs, n, _, _, _, hxl, hg⟩ := DataW.trod_struct Try.underlying26 hf
    have hxs : ∀ k, k < 5 → ∃ y, xs[k]? = some y := fun k hk => get_lt (by have : xs.length = 5 := hxl; omega)
    have h3 : Try.prog.cellsOf 3 = 1 := by kernel_rfl
    have h22 : Try.prog.cellsOf 22 = 1 := by kernel_rfl
    have h23 : Try.prog.cellsOf 23 = 1 := by kernel_rfl
    have h24 : Try.prog.cellsOf 24 = 1 := by kernel_rfl
    have g0 : DataW.trod enc Try.prog w base spare held n 3 (([c0, c1, c2, c3, c4].drop 0).take (Try.prog.cellsOf 3)) = xs[0]? := hg 0 _ rfl
    have g1 : DataW.trod enc Try.prog w base spare held n 3 (([c0, c1, c2, c3, c4].drop 1).take (Try.prog.cellsOf 3)) = xs[1]? := hg 1 _ rfl
    have g2 : DataW.trod enc Try.prog w base spare held n 22 (([c0, c1, c2, c3, c4].drop 2).take (Try.prog.cellsOf 22)) = xs[2]? := hg 2 _ rfl
    have g3 : DataW.trod enc Try.prog w base spare held n 23 (([c0, c1, c2, c3, c4].drop 3).take (Try.prog.cellsOf 23)) = xs[3]? := hg 3 _ rfl
    have g4 : DataW.trod enc Try.prog w base spare held n 24 (([c0, c1, c2, c3, c4].drop 4).take (Try.prog.cellsOf 24)) = xs[4]? := hg 4 _ rfl
    rw [h3] at g0 g1
    rw [h22] at g2
    rw [h23] at g3
    rw [h24] at g4
    obtain ⟨y2, e2⟩ := hxs 2 (by omega)
    obtain ⟨y3, e3⟩ := hxs 3 (by omega)
    obtain ⟨y4, e4⟩ := hxs 4 (by omega)
    obtain ⟨z0, q0⟩ := intAt g0 (by obtain ⟨y, e⟩ := hxs 0 (by omega); rw [e]; rfl)
    obtain ⟨z1, q1⟩ := intAt g1 (by obtain ⟨y, e⟩ := hxs 1 (by omega); rw [e]; rfl)
    rw [e2] at g2
    rw [e3] at g3
    rw [e4] at g4
    have q0' : c0 = .int .i64 z0 := by simpa using q0
    have q1' : c1 = .int .i64 z1 := by simpa using q1
    obtain ⟨A2, d2, xs2, rfl, s2⟩ := ints_in (v := c2) g2
    obtain ⟨A3, d3, xs3, rfl, s3⟩ := leaves_in (v := c3) g3
    obtain ⟨A4, d4, xs4, rfl, s4⟩ := branches_in (v := c4) g4
    subst q0' q1'
    exact ⟨⟨z0, z1, xs2, xs3, xs4⟩, A2, d2, A3, d3, A4, d4, rfl, s2, s3, s4⟩
end
end Go.Proofs.Ytnimlcbgeiajiaa

namespace Go.Proofs.Ytnimlcbgeiajiaa
open Go.RowKit Go.ChangeShapes Go.WideShapes Go.ChangeAt

theorem knob : ownKnob Try.prog.godebug = none := by kernel_rfl
theorem laid_out : laidOutB Try.prog = true := by kernel_rfl

section
variable {H : Type} {enc : TypeId × Value → H} {P : Program}
/-- What a law leaves behind that made memory alone: its arguments read as they did. -/
theorem law_post {f : Func} {s : ChangeSpec} {apart fresh handsOn again : Bool} {W W' : World} {args : Array Value} {v : Value} {ds : List (DataW H)} {before : List MemPlace} (hvars : s.vars = [])
    (hW : DataW.Whole enc P f.params.toList s.vars apart W args.toList ds [] before)
    (hres : ∀ (b : Nat) (sp : Nat → Bool) (hd : Bool), DataW.TrodAll enc P W' b sp hd f.resultTypes.toList (v.resultList f.resultTypes.size) (s.fn H (ds ++ [])).results [])
    (hargs : ∀ sp : Nat → Bool, (∀ p ∈ before, sp p.block = true) → DataW.TrodAll enc P W' 0 sp true f.params.toList args.toList (s.fn H (ds ++ [])).args before) (hsv : (s.fn H (ds ++ [])).vars = [])
    (hb : Below W.heap.size W W')
    (hok : ∀ (j : Nat) (t : TypeId) (r : Value), f.resultTypes[j]? = some t → (v.resultList f.resultTypes.size)[j]? = some r → Value.okWide P W' .any 0 t r) :
    s.post enc P f apart fresh handsOn again W args v W' := by
  have hlt : ∀ p ∈ before, p.block < W.heap.size := fun p hp => hW.lt p hp
  have hold : ∀ p ∈ before, (fun b => decide (b < W.heap.size)) p.block = true := fun p hp => by simpa using hlt p hp
  have hvs : ∀ sp : Nat → Bool, DataW.TrodVars enc P W' sp s.vars (s.fn H (ds ++ [])).vars [] := fun sp => by rw [hvars, hsv]; rfl
  refine ⟨ds, [], before, [], before, [], hW, hres _ _ _, hargs _ hold, hvs _, World.keptBut_mono (fun p hp => ⟨hp, ?_⟩) (hb.frame (· ∈ before)), fun _ => ?_⟩
  · exact Or.inr (Or.inl hp)
  · obtain ⟨_, _, _, _, _, hz, hn⟩ := hW
    refine ⟨hok, _, _, ([] ++ before) ++ [], ⟨[] ++ before, [], trodAll_append (hargs _ (fun _ _ => rfl)) (hres _ _ _), hvs _, rfl, ?_, ?_⟩, ?_⟩
    · intro b off hp
      have hin : MemPlace.cell b off ∈ before := by simpa using hp
      rw [hb.frozen (hlt _ hin)]
      exact hz b off hin
    · intro ha
      simpa using hn ha
    · intro p hp _
      simpa using hp
end

set_option maxRecDepth 100000 in
theorem tv_lifted (os : Os) (started : os.Started) (H : Type) (enc : TypeId × Value → H) :
    ReturnsInHanded {} Try.checked os 3 .any (Rows.treeValidatesSpec.pre6 enc Try.prog Try.f3 Rows.treeValidatesRow.domain false) (Rows.treeValidatesSpec.post enc Try.prog Try.f3 false true false false) := by
  refine returnsInHanded_of_change (C := Try.checked) knob started (by kernel_rfl) Try.func3
    (ChangeSpec.witness6 (enc := enc) (C := Try.checked) false ⟨#[], #[.agg #[.int .i64 0, .int .i64 0, .slice none 0 0, .slice none 0 0, .slice none 0 0]], []⟩ 8 (by kernel_rfl) (by kernel_rfl) (by kernel_rfl) (by kernel_rfl)) ?_
  intro W base args ds gs before hval0 hW hcnd _
  have hval : ∀ (j : Nat) t v, Try.f3.params[j]? = some t → args[j]? = some v → Value.okWide Try.prog W .any base t v := hval0
  have hW' := hW
  obtain ⟨p, q, hA0, hV, rfl, hfz, hnd⟩ := hW
  have hA : DataW.TrodAll enc Try.prog W 0 (fun _ => true) true Try.f3.params.toList args.toList ds p := hA0
  rw [Try.params3] at hA hval
  obtain ⟨v0, d0, rfl, rfl, h0⟩ := trodAll_one hA
  obtain ⟨rfl, rfl⟩ := trodVars_none hV
  obtain ⟨a, ha⟩ := ta_in (hval 0 26 v0 rfl rfl) h0
  simp only [List.append_nil] at hW'
  have hlt := hW'.lt
  refine Calls.ret (lawValidates v0 a W ha) fun v W' ⟨hv, hb⟩ => ?_
  subst hv
  exact ⟨_, rfl, law_post rfl hW' (fun _ _ _ => trodAll_mk1 (shut_bool Try.underlying4 _)) (fun sp hsp => by
    rw [Try.params3]
    exact trodAll_mk1 (WideElems.Trod_stays laid_out (by kernel_rfl) (of_decide_eq_true (by kernel_rfl)) h0 (fun x hx => hb.same (hlt x hx)) hsp)) rfl hb (ok_one (by kernel_rfl) rfl (okWide_bool_mk Try.underlying4 _))⟩

theorem treeValidates_holds : Rows.TreeValidatesSaid :=
  OpenClaim.holds_of_wide 3 Try.f3 rfl rfl rfl rfl rfl rfl rfl ⟨rfl, rfl, rfl, rfl, rfl⟩ rfl rfl rfl rfl rfl (by kernel_rfl) Try.func3 (by kernel_rfl)
    (of_decide_eq_true (by kernel_rfl)) (by unfold Func.isWrapper; first | (rw [if_pos (by decide +kernel)]; kernel_rfl) | (rw [if_neg (by decide +kernel)]; exact ⟨rfl, rfl⟩))
    (fun os started H enc _ => tv_lifted os started H enc)
#print axioms treeValidates_holds
end Go.Proofs.Ytnimlcbgeiajiaa

namespace Go.Proofs.Ytnimlcbgeiajiaa
open Go.RowKit Go.ChangeShapes Go.WideShapes Go.ChangeAt

section
variable {H : Type} {enc : TypeId × Value → H} {w : World} {base : Nat} {spare : Nat → Bool} {held : Bool}
set_option maxRecDepth 100000 in
/-- A shape with labels that comes in. -/
theorem tree_in {r : Go.Reach} {b0 : Nat} {v : Value} {d : DataW H} {p : List MemPlace} (hv : Value.okWide Try.prog w r b0 40 v) (h : DataW.Trod enc Try.prog w base spare held 40 v d p) :
    ∃ A1 c1 A2 c2, ∃ sh lb : List Int, v = .agg #[.slice A1 sh.length c1, .slice A2 lb.length c2] ∧ Sl w w.heap.size 1 encI A1 sh ∧ Sl w w.heap.size 1 encI A2 lb := by
  obtain ⟨cs, rfl, hsz⟩ := okWide_struct Try.underlying40 hv
  obtain ⟨l⟩ := cs
  have hC : Try.prog.cellsOf 40 = 2 := by kernel_rfl
  match l, hsz.trans hC with
  | [c0, c1], _ =>
    obtain ⟨fuel, hf⟩ := h
    obtain ⟨xs, n, _, _, _, hxl, hg⟩ := DataW.trod_struct Try.underlying40 hf
    have hxs : ∀ k, k < 2 → ∃ y, xs[k]? = some y := fun k hk => get_lt (by have : xs.length = 2 := hxl; omega)
    have h22 : Try.prog.cellsOf 22 = 1 := by kernel_rfl
    have g0 : DataW.trod enc Try.prog w base spare held n 22 (([c0, c1].drop 0).take (Try.prog.cellsOf 22)) = xs[0]? := hg 0 _ rfl
    have g1 : DataW.trod enc Try.prog w base spare held n 22 (([c0, c1].drop 1).take (Try.prog.cellsOf 22)) = xs[1]? := hg 1 _ rfl
    rw [h22] at g0 g1
    obtain ⟨y0, e0⟩ := hxs 0 (by omega)
    obtain ⟨y1, e1⟩ := hxs 1 (by omega)
    rw [e0] at g0
    rw [e1] at g1
    obtain ⟨A0, d0, xs0, rfl, s0⟩ := ints_in (v := c0) g0
    obtain ⟨A1, d1, xs1, rfl, s1⟩ := ints_in (v := c1) g1
    exact ⟨A0, d0, A1, d1, xs0, xs1, rfl, s0, s1⟩
end

end Go.Proofs.Ytnimlcbgeiajiaa

namespace Go.Proofs.Ytnimlcbgeiajiaa
open Go.RowKit Go.ChangeShapes Go.WideShapes Go.ChangeAt

set_option maxRecDepth 100000 in
theorem treeWitnesses_lifted (os : Os) (started : os.Started) (H : Type) (enc : TypeId × Value → H) :
    ReturnsInHanded {} Try.checked os 8 .any (Rows.treeWitnessesSpec.pre6 enc Try.prog Try.f8 Rows.treeWitnessesRow.domain false) (Rows.treeWitnessesSpec.post enc Try.prog Try.f8 false true false false) := by
  refine returnsInHanded_of_change (C := Try.checked) knob started (by kernel_rfl) Try.func8
    (ChangeSpec.witness6 (enc := enc) (C := Try.checked) false ⟨#[], #[.agg #[.int .i64 0, .int .i64 0, .slice none 0 0, .slice none 0 0, .slice none 0 0]], []⟩ 8 (by kernel_rfl) (by kernel_rfl) (by kernel_rfl) (by kernel_rfl)) ?_
  intro W base args ds gs before hval0 hW hcnd _
  have hval : ∀ (j : Nat) t v, Try.f8.params[j]? = some t → args[j]? = some v → Value.okWide Try.prog W .any base t v := hval0
  have hW' := hW
  obtain ⟨p, q, hA0, hV, rfl, hfz, hnd⟩ := hW
  have hA : DataW.TrodAll enc Try.prog W 0 (fun _ => true) true Try.f8.params.toList args.toList ds p := hA0
  rw [Try.params8] at hA hval
  obtain ⟨v0, d0, rfl, rfl, h0⟩ := trodAll_one hA
  obtain ⟨rfl, rfl⟩ := trodVars_none hV
  obtain ⟨a, ha⟩ := ta_in (hval 0 26 v0 rfl rfl) h0
  simp only [List.append_nil] at hW'
  have hlt := hW'.lt
  refine Calls.ret (lawWitnesses ha) fun v W' ⟨hv, hb⟩ => ?_
  subst hv
  exact ⟨_, rfl, law_post rfl hW' (fun _ _ _ => trodAll_mk1 (shut_bool Try.underlying4 _)) (fun sp hsp => by
    rw [Try.params8]
    exact trodAll_mk1 (WideElems.Trod_stays laid_out (by kernel_rfl) (of_decide_eq_true (by kernel_rfl)) h0 (fun x hx => hb.same (hlt x hx)) hsp)) rfl hb (ok_one (by kernel_rfl) rfl (okWide_bool_mk Try.underlying4 _))⟩

theorem treeWitnesses_holds : Rows.TreeWitnessesSaid :=
  OpenClaim.holds_of_wide 8 Try.f8 rfl rfl rfl rfl rfl rfl rfl ⟨rfl, rfl, rfl, rfl, rfl⟩ rfl rfl rfl rfl rfl (by kernel_rfl) Try.func8 (by kernel_rfl)
    (of_decide_eq_true (by kernel_rfl)) (by unfold Func.isWrapper; first | (rw [if_pos (by decide +kernel)]; kernel_rfl) | (rw [if_neg (by decide +kernel)]; exact ⟨rfl, rfl⟩))
    (fun os started H enc _ => treeWitnesses_lifted os started H enc)
#print axioms treeWitnesses_holds
end Go.Proofs.Ytnimlcbgeiajiaa
