/-
  The reference's ValidTree with IsShape: the walks.
  The reference's accepts: marks and words say the same (plain), and the walk.
  The reference's accepts and Accepts: the walks.
  The reference's Accepts, long, and the law TreeAccepts: the walks.
-/
import Derived.Test.YtnimlcbgeiajiaaTjP4
import Derived.Test.YtnimlcbgeiajiaaTiPC
import Derived.Test.YtnimlcbgeiajiaaTiPA

namespace Go.Proofs.Ytnimlcbgeiajiaa
open Go.RowKit

def shGo : Int → List Int → Bool
  | o, [] => o == 0
  | o, c :: sh => o != 0 && (c == 0 || c == 2) && shGo (o + (c - 1)) sh
theorem vt_sh {L : Int} : ∀ (sh lb : List Int) (o : Int), lb.length = sh.length → vtGo L o sh lb = (shGo o sh && lb.all (inC · 0 (L - 1)))
  | [], [], o, _ => by simp [vtGo, shGo]
  | [], _ :: _, _, h => by simp at h
  | _ :: _, [], _, h => by simp at h
  | c :: sh, l :: lb, o, h => by
    have ih := vt_sh (L := L) sh lb (o + c - 1) (by simpa using h)
    have e : decide (l < L) = decide (l ≤ L - 1) := decide_eq_decide.2 (by omega)
    simp only [vtGo, shGo, List.all_cons, ih, show o + (c - 1) = o + c - 1 from by omega, e, inC]
    cases (o != 0) <;> cases (c == 0 || c == 2) <;> cases decide (0 ≤ l) <;> cases decide (l ≤ L - 1) <;> cases (shGo (o + c - 1) sh) <;> rfl
theorem shGo_step {o c : Int} {sh : List Int} {i : Nat} (hc : sh[i]? = some c) : shGo o (sh.drop i) = (o != 0 && (c == 0 || c == 2) && shGo (o + (c - 1)) (sh.drop (i + 1))) := by
  have h1 : sh.drop i = c :: sh.drop (i + 1) := by
    have := lt_of_get hc
    rw [List.drop_eq_getElem_cons this]
    rw [List.getElem?_eq_getElem this] at hc
    rw [Option.some.inj hc]
  rw [h1]
  rfl

set_option maxHeartbeats 4000000 in
set_option maxRecDepth 100000 in
theorem isShape_any {w : World} {B1 c1 : Nat} {A1 : Option Addr} {sh : List Int} (h1 : Sl w B1 1 encI A1 sh) (hs2 : sh.length ≤ 4095) :
    Calls Try.prog 80 #[.slice A1 sh.length c1] w fun e w' => e = .returned (.bool (shGo 1 sh)) ∧ w = w' := by
  go_enter Try.func80, Try.ntmps80
  go_wp2
  go_loop [3, 4] (fun oo ii => ∃ (i : Nat) (o : Int), ii = .int .i64 (i : Int) ∧ i ≤ sh.length ∧ oo = .int .i64 o ∧ 0 ≤ o ∧ o ≤ i + 1 ∧ Hid (shGo 1 sh = shGo o (sh.drop i))) (fun _ ii => sh.length - (intOf ii).toNat)
  case atStart => exact ⟨0, 1, rfl, Nat.zero_le _, rfl, by omega, by omega, rfl⟩
  case round =>
    obtain ⟨i, o, rfl, hi, rfl, ho0, ho1, hv⟩ := hrel
    by_cases hlt : i < sh.length
    · obtain ⟨b1, o1, c, rfl, hb1, hc, hcc⟩ := h1.at hlt
      have hc0 := hcc 0 (by omega)
      simp only [Nat.mul_one, Nat.add_zero, encI] at hc0
      have hst := hide (shGo_step (o := o) hc)
      clear hc hcc
      by_cases h0 : o = 0
      · subst h0
        go_wp2_with fail
        go_ret
        exact ⟨by rw [hv.out, hst.out]; rfl, rfl⟩
      · have h0' : (o == 0) = false := by simpa using h0
        by_cases hc2 : c = 0 ∨ c = 2
        · have h0n : (o != 0) = true := by simpa using h0
          rcases hc2 with rfl | rfl
          · have hfin : Hid (shGo 1 sh = shGo (o + -1) (sh.drop (i + 1))) := by
              show _ = _
              rw [hv.out, hst.out, h0n]
              rfl
            go_wp2_with fail
            exact ⟨⟨i + 1, o + -1, by simp, by omega, rfl, by omega, by omega, hfin.out⟩, by simp [intOf]; omega⟩
          · have hfin : Hid (shGo 1 sh = shGo (o + 1) (sh.drop (i + 1))) := by
              show _ = _
              rw [hv.out, hst.out, h0n]
              rfl
            go_wp2_with fail
            exact ⟨⟨i + 1, o + 1, by simp, by omega, rfl, by omega, by omega, hfin.out⟩, by simp [intOf]; omega⟩
        · have hn0 : (c != 0) = true := by simp; omega
          have hn2 : (c != 2) = true := by simp; omega
          have hfin : Hid (shGo 1 sh = false) := by
            show _ = _
            rw [hv.out, hst.out]
            have e1 : (c == 0) = false := by simp; omega
            have e2 : (c == 2) = false := by simp; omega
            simp [e1, e2]
          go_wp2_with fail
          go_ret
          exact ⟨by rw [hfin.out]; rfl, rfl⟩
    · have hfin : Hid (shGo 1 sh = (o == 0)) := by
        show _ = _
        rw [hv.out, List.drop_eq_nil_of_le (by omega)]
        rfl
      go_wp2_with fail
      go_ret
      exact ⟨by rw [hfin.out]; rfl, rfl⟩

set_option maxHeartbeats 4000000 in
set_option maxRecDepth 100000 in
theorem refValidTree_any {w : World} {B1 B2 c1 c2 : Nat} {A1 A2 : Option Addr} {L : Int} {sh lb : List Int} (h1 : Sl w B1 1 encI A1 sh) (h2 : Sl w B2 1 encI A2 lb) (hL : 1 ≤ L ∧ L ≤ 8) :
    Calls Try.prog 55 #[.int .i64 L, .slice A1 sh.length c1, .slice A2 lb.length c2] w fun e w' => e = .returned (.bool (validT L sh lb)) ∧ w = w' := by
  have hn1 := h1.1
  have hn2 := h2.1
  obtain ⟨hL1, hL8⟩ := hL
  cases hw : inC sh.length 1 4095
  · have hv : Hid (validT L sh lb = false) := by
      show _ = _
      simp [inC] at hw
      simp [validT]
      omega
    have hW := hide hw
    clear hw
    go_enter Try.func55, Try.ntmps55
    go_wp2_with (go_at_call 45; refine (within_any _ _ _ _).mono ?_; rintro e w' ⟨rfl, rfl⟩; rw [hW.out])
    go_ret
    exact ⟨by rw [hv.out]; rfl, rfl⟩
  · have hs2 : sh.length ≤ 4095 ∧ 1 ≤ sh.length := by simp [inC] at hw; omega
    have hW := hide hw
    clear hw
    by_cases hl : lb.length = sh.length
    · have hv0 : Hid (validT L sh lb = (shGo 1 sh && lb.all (inC · 0 (L - 1)))) := by
        show _ = _
        rw [← vt_sh sh lb 1 hl]
        simp [validT, hl, hs2.1, hs2.2]
      have hLl := hide hl
      rw [hl]
      cases hsh : shGo 1 sh
      · have hS := hide hsh
        clear hsh hl
        go_enter Try.func55, Try.ntmps55
        go_wp2_with (first | (go_at_call 45; refine (within_any _ _ _ _).mono ?_; rintro e w' ⟨rfl, rfl⟩; rw [hW.out]) | (go_at_call 80; refine (isShape_any h1 hs2.1).mono ?_; rintro e w' ⟨rfl, rfl⟩; rw [hS.out]))
        go_ret
        exact ⟨by rw [hv0.out, hS.out]; rfl, rfl⟩
      · have hS := hide hsh
        clear hsh hl
        go_enter Try.func55, Try.ntmps55
        go_wp2_with (first | (go_at_call 45; refine (within_any _ _ _ _).mono ?_; rintro e w' ⟨rfl, rfl⟩; rw [hW.out]) | (go_at_call 80; refine (isShape_any h1 hs2.1).mono ?_; rintro e w' ⟨rfl, rfl⟩; rw [hS.out]))
        go_loop [7] (fun ii => ∃ (i : Nat), ii = .int .i64 (i : Int) ∧ i ≤ sh.length ∧ Hid ((lb.take i).all (inC · 0 (L - 1)) = true)) (fun ii => sh.length - (intOf ii).toNat)
        case atStart => exact ⟨0, rfl, Nat.zero_le _, rfl⟩
        case round =>
          obtain ⟨i, rfl, hi, hE⟩ := hrel
          by_cases hlt : i < sh.length
          · obtain ⟨b, off, q, rfl, hbb, hx, hc⟩ := h2.at (k := i) (by rw [hLl.out]; exact hlt)
            have hc0 := hc 0 (by omega)
            simp only [Nat.mul_one, Nat.add_zero, encI] at hc0
            have hX := hide hx
            clear hx hc
            cases hq : inC q 0 (L - 1)
            · have hQ := hide hq
              clear hq
              go_wp2_with (go_at_call 45; refine (within_any _ _ _ _).mono ?_; rintro e w' ⟨rfl, rfl⟩; rw [hQ.out])
              go_ret
              exact ⟨by rw [hv0.out, hS.out, all_false hX.out hQ.out]; rfl, rfl⟩
            · have hQ := hide hq
              clear hq
              go_wp2_with (go_at_call 45; refine (within_any _ _ _ _).mono ?_; rintro e w' ⟨rfl, rfl⟩; rw [hQ.out])
              exact ⟨⟨i + 1, by go_num, by omega, all_take_succ hX.out hE.out hQ.out⟩, by simp [intOf]; omega⟩
          · have hA := hide (all_done (by rw [hLl.out]; omega) hE.out)
            go_wp2_with fail
            go_ret
            exact ⟨by rw [hv0.out, hS.out, hA.out]; rfl, rfl⟩
    · have hv : Hid (validT L sh lb = false) := by show _ = _; simp [validT, hl]
      have hne : ((lb.length : Int) != (sh.length : Int)) = true := by simp; omega
      clear hl
      go_enter Try.func55, Try.ntmps55
      go_wp2_with (go_at_call 45; refine (within_any _ _ _ _).mono ?_; rintro e w' ⟨rfl, rfl⟩; rw [hW.out])
      go_ret
      exact ⟨by rw [hv.out]; rfl, rfl⟩
end Go.Proofs.Ytnimlcbgeiajiaa

namespace Go.Proofs.Ytnimlcbgeiajiaa
open Go.RowKit

/-- Marks and a word say the same of all states. -/
def SameM (S : Nat) (m : List Bool) (M : Nat) : Prop := m.length = S ∧ ∀ q, q < S → m[q]?.getD false = M.testBit q
theorem SameM.zero (S : Nat) : SameM S (List.replicate S false) 0 := ⟨by simp, fun q hq => by simp [hq]⟩
theorem SameM.set {S : Nat} {m : List Bool} {M : Nat} (h : SameM S m M) {q : Int} (h0 : 0 ≤ q) (hq : q < S) : SameM S (setM m q) (setB M q) := by
  obtain ⟨q, rfl⟩ := Int.eq_ofNat_of_zero_le h0
  refine ⟨by rw [setM_len]; exact h.1, fun j hj => ?_⟩
  simp only [setM, setB, mOr, mPow, Int.toNat_natCast]
  rw [Nat.testBit_or, Nat.testBit_two_pow, List.getElem?_set]
  by_cases e : q = j
  · subst e
    simp [h.1, hj]
  · simp [e, h.2 j hj]
theorem SameM.bit {S : Nat} {m : List Bool} {M : Nat} (h : SameM S m M) {q : Int} (h0 : 0 ≤ q) (hq : q < S) : bitM m q = mBit M q := h.2 q.toNat (by omega)
theorem sameM_leaf {S : Nat} (x : Nat) : ∀ (l : List Leaf) (m : List Bool) (M : Nat), SameM S m M → (∀ e ∈ l, 0 ≤ e.to ∧ e.to < S) → SameM S (l.foldl (leafF x) m) (l.foldl (leafMF x) M)
  | [], _, _, h, _ => h
  | e :: l, m, M, h, hl => by
    refine sameM_leaf x l _ _ ?_ (fun e' he' => hl e' (List.mem_cons_of_mem _ he'))
    have := hl e List.mem_cons_self
    by_cases hx : e.letter = (x : Int)
    · simp only [leafF, leafMF, hx, if_true]
      exact h.set this.1 this.2
    · simp only [leafF, leafMF, hx, if_false]
      exact h
theorem sameM_br {S : Nat} (x : Nat) {s t : List Bool} {s' t' : Nat} (hs : SameM S s s') (ht : SameM S t t') : ∀ (l : List Branch) (m : List Bool) (M : Nat), SameM S m M →
    (∀ e ∈ l, (0 ≤ e.first ∧ e.first < S) ∧ (0 ≤ e.second ∧ e.second < S) ∧ (0 ≤ e.to ∧ e.to < S)) → SameM S (l.foldl (brF x s t) m) (l.foldl (brMF x s' t') M)
  | [], _, _, h, _ => h
  | e :: l, m, M, h, hl => by
    refine sameM_br x hs ht l _ _ ?_ (fun e' he' => hl e' (List.mem_cons_of_mem _ he'))
    obtain ⟨⟨h1, h2⟩, ⟨h3, h4⟩, h5, h6⟩ := hl e List.mem_cons_self
    simp only [brF, brMF, hs.bit h1 h2, ht.bit h3 h4]
    split
    · exact h.set h5 h6
    · exact h

def TA.marks (a : TA) (t : Tr) : List Bool := runT (leafR a.states.toNat a.leaves) (brR a.states.toNat a.branches) t
theorem TA.same_marks {a : TA} (hv : a.valid = true) (t : Tr) : SameM a.states.toNat (a.marks t) (a.mask t) := by
  simp only [TA.valid, TA.head, Bool.and_eq_true, decide_eq_true_eq] at hv
  obtain ⟨⟨⟨⟨⟨⟨-, -⟩, h3⟩, -⟩, -⟩, h6⟩, h7⟩ := hv
  have hl : ∀ e ∈ a.leaves, 0 ≤ e.to ∧ e.to < (a.states.toNat : Int) := fun e he => by
    have := List.all_eq_true.1 h6 e he
    simp only [okLeaf, inR, Bool.and_eq_true, decide_eq_true_eq] at this
    omega
  have hb : ∀ e ∈ a.branches, (0 ≤ e.first ∧ e.first < (a.states.toNat : Int)) ∧ (0 ≤ e.second ∧ e.second < (a.states.toNat : Int)) ∧ (0 ≤ e.to ∧ e.to < (a.states.toNat : Int)) := fun e he => by
    have := List.all_eq_true.1 h7 e he
    simp only [okBranch, inR, Bool.and_eq_true, decide_eq_true_eq] at this
    omega
  induction t with
  | leaf x => exact sameM_leaf x a.leaves _ _ (SameM.zero _) hl
  | node x s t ihs iht =>
    have := sameM_br x ihs iht a.branches _ _ (SameM.zero _) hb
    have e : a.mask (.node x s t) = a.branches.foldl (brMF x (a.mask s) (a.mask t)) 0 := by
      show brM _ _ _ = _
      unfold brM
      rw [brM_filter]
      rfl
    rw [e]
    exact this
theorem any_eq {l : List Int} {f g : Int → Bool} (h : ∀ q ∈ l, f q = g q) : l.any f = l.any g := by
  induction l with
  | nil => rfl
  | cons q l ih => rw [List.any_cons, List.any_cons, h q List.mem_cons_self, ih fun q' hq' => h q' (List.mem_cons_of_mem _ hq')]
theorem TA.lang_marks {a : TA} (hv : a.valid = true) (t : Tr) : meetsR a.accept (a.marks t) = a.lang t := by
  have h := TA.same_marks hv t
  obtain ⟨-, -, h3, -, h5, h6, -, -⟩ := TA.valid_parts hv
  have : a.lang t = a.accept.any (mBit (a.mask t)) := accS_any a _ fun q hq => (h6 q hq).1
  rw [this]
  refine any_eq fun q hq => ?_
  have := List.all_eq_true.1 h5 q hq
  simp only [inR, Bool.and_eq_true, decide_eq_true_eq] at this
  exact h.bit this.1 (by omega)

/-- The marks of the subtrees that wait, in memory. -/
structure KeptM (w : World) (base : Nat) (a : TA) (kk : Value) (us : List Value) (s : List Tr) : Prop where
  own : w.ownsRow base 79 1 kk s.length us
  row : ∀ (i : Nat) (u : Value) (t : Tr), us[i]? = some u → s.reverse[i]? = some t → Marks w w.heap.size a.states.toNat u (a.marks t)
theorem KeptM.len {w : World} {base : Nat} {a : TA} {kk : Value} {us : List Value} {s : List Tr} (h : KeptM w base a kk us s) : us.length = s.length := by simpa using h.own.1
theorem KeptM.keep {w w' : World} {base : Nat} {a : TA} {kk : Value} {us : List Value} {s : List Tr} (h : KeptM w base a kk us s) (hk : Kept w w' (fun _ => False)) : KeptM w' base a kk us s :=
  ⟨hk.ownsRow h.own (fun _ _ => id), fun i u t hu ht => ((h.row i u t hu ht).keep0 hk).mono hk.size⟩
theorem KeptM.push {w w' : World} {base : Nat} {a : TA} {kk kk' u : Value} {us : List Value} {s : List Tr} {t : Tr} (h : KeptM w base a kk us s) (hu : Marks w w.heap.size a.states.toNat u (a.marks t)) (hk : Kept w w' (fun k => kk.ownBlock = some k)) (hown : w'.ownsRow base 79 1 kk' (s.length + 1) (us ++ [u])) : KeptM w' base a kk' (us ++ [u]) (t :: s) := by
  have hX : ∀ g cs, kk.ownBlock = some g → g < w.heap.size → ¬ Blk w g 4 cs := fun g cs hx _ hb => own_blk_ne h.own hb (by decide) hx
  refine ⟨by simpa using hown, fun i u' t' hu' ht' => ?_⟩
  rw [List.reverse_cons] at ht'
  rcases Nat.lt_trichotomy i s.length with hlt | heq | hgt
  · rw [List.getElem?_append_left (by rw [h.len]; exact hlt)] at hu'
    rw [List.getElem?_append_left (by simpa using hlt)] at ht'
    exact ((h.row i u' t' hu' ht').keep hk hX).mono hk.size
  · rw [List.getElem?_append_right (by rw [h.len]; omega), h.len, heq, Nat.sub_self] at hu'
    rw [List.getElem?_append_right (by simp; omega), List.length_reverse, heq, Nat.sub_self] at ht'
    have e1 := Option.some.inj hu'
    have e2 := Option.some.inj ht'
    subst e1 e2
    exact (hu.keep hk hX).mono hk.size
  · rw [List.getElem?_eq_none (by simp; omega)] at ht'
    cases ht'
theorem KeptM.pop2 {w : World} {base : Nat} {a : TA} {g cap : Nat} {us : List Value} {t1 t2 : Tr} {r : List Tr} (h : KeptM w base a (.slice (some ⟨g, 0, none⟩) (r.length + 1 + 1) cap) us (t1 :: t2 :: r)) : KeptM w base a (.slice (some ⟨g, 0, none⟩) r.length cap) (us.take r.length) r := by
  refine ⟨by simpa using own_shrink (m := r.length) h.own (by omega), fun i u t hu ht => ?_⟩
  have hi : i < r.length := by have := lt_of_get ht; simpa using this
  refine h.row i u t ?_ ?_
  · rw [List.getElem?_take] at hu
    simpa [hi] using hu
  · simp only [List.reverse_cons, List.append_assoc]
    rw [List.getElem?_append_left (by simpa using hi)]
    exact ht
theorem KeptM.top {w : World} {base : Nat} {a : TA} {kk : Value} {us : List Value} {t1 t2 : Tr} {r : List Tr} (h : KeptM w base a kk us (t1 :: t2 :: r)) :
    ∃ u1 u2, us[r.length + 1]? = some u1 ∧ us[r.length]? = some u2 ∧ Marks w w.heap.size a.states.toNat u1 (a.marks t1) ∧ Marks w w.heap.size a.states.toNat u2 (a.marks t2) := by
  have hl := h.len
  obtain ⟨u1, hu1⟩ := get_lt (l := us) (i := r.length + 1) (by simp at hl; omega)
  obtain ⟨u2, hu2⟩ := get_lt (l := us) (i := r.length) (by simp at hl; omega)
  refine ⟨u1, u2, hu1, hu2, h.row _ _ _ hu1 ?_, h.row _ _ _ hu2 ?_⟩
  · simp
  · simp

end Go.Proofs.Ytnimlcbgeiajiaa

namespace Go.Proofs.Ytnimlcbgeiajiaa
open Go.RowKit

set_option maxHeartbeats 8000000 in
set_option maxRecDepth 100000 in
theorem refaccepts_any {v : Value} {a : TA} {w : World} {B1 B2 c1' c2' : Nat} {D1 D2 : Option Addr} {sh lb : List Int} (h : IsTA w w.heap.size v a) (hs : Sl w B1 1 encI D1 sh) (hl : Sl w B2 1 encI D2 lb) (hB1 : B1 ≤ w.heap.size) (hB2 : B2 ≤ w.heap.size)
    (hv : a.valid = true) (hvt : validT a.letters sh lb = true) :
    Calls Try.prog 56 #[v, .slice D1 sh.length c1', .slice D2 lb.length c2'] w (Ret fun r w' => r = .bool (a.lang (treeOf sh lb)) ∧ Below w.heap.size w w') := by
  obtain ⟨A1, c1, A2, c2, A3, c3, rfl, h1, h2, h3⟩ := h
  obtain ⟨w1, hw1, hb1, hB, hk1⟩ := box_blk w #[.int .i64 a.letters, .int .i64 a.states, .slice A1 a.accept.length c1, .slice A2 a.leaves.length c2, .slice A3 a.branches.length c3] 26
  have hsz := hb1.size
  have hT : IsTA w1 w1.heap.size (.agg #[.int .i64 a.letters, .int .i64 a.states, .slice A1 a.accept.length c1, .slice A2 a.leaves.length c2, .slice A3 a.branches.length c3]) a :=
    ⟨A1, c1, A2, c2, A3, c3, rfl, (h1.below hb1).mono hsz, (h2.below hb1).mono hsz, (h3.below hb1).mono hsz⟩
  have hHT := hide hT
  have hn1 := h1.1
  have hns := hs.1
  have hnl := hl.1
  clear hT
  have hV := hide hv
  clear hv
  obtain ⟨hst, hok, hlen, hn1', hn2'⟩ := validT_tree hvt
  have hgo : vtGo a.letters 1 sh lb = true := by
    simp only [validT, Bool.and_eq_true] at hvt
    exact hvt.2
  have hST := hide hst
  have hGO := hide hgo
  have hLEN := hide hlen
  clear hvt hst hgo hlen
  obtain ⟨hL1, hL8, hS0, hS64, hacc, -, -, -⟩ := TA.valid_parts hV.out
  have hACC := hide hacc
  clear hacc
  go_enter Try.func56, Try.ntmps56
  go_wp2_with fail
  go_loopw [7, 8] (fun kk ii wr => ∃ (i : Nat) (s : List Tr) (us : List Value), ii = .int .i64 ((i : Int) - 1) ∧ i ≤ sh.length ∧ Hid (stk (sh.drop i) (lb.drop i) = some s) ∧ Hid (KeptM wr w1.heap.size a kk us s) ∧ Hid (i + s.length ≤ sh.length + 1) ∧ Below w1.heap.size w1 wr) (fun _ ii _ => (intOf ii + 1).toNat)
  case atStart => exact ⟨sh.length, [], [], rfl, Nat.le_refl _, stk_nil_at (Nat.le_refl _), ⟨own_nil, fun i u t h => by simp at h⟩, Nat.le_succ _, Below.refl _ _⟩
  case round =>
    obtain ⟨i, s, us, rfl, hi, hs3, hown, hsl, hbr⟩ := hrel
    have hBr := hB.kept (Kept.of_below hbr (fun _ => False)) id
    have hcbr := hBr.cell
    have hszr := hbr.size
    obtain ⟨A, c, rfl⟩ := slice_of_own hown.out.own
    have hszd : wr.drew.heap.size = wr.heap.size := rfl
    have hownd := hide (hown.out.keep (Kept.refl wr (fun _ => False)).drew)
    by_cases hlt : 0 < i
    · obtain ⟨k, rfl⟩ : ∃ k, i = k + 1 := ⟨i - 1, by omega⟩
      rw [show (((k + 1 : Nat) : Int) - 1) = (k : Int) from by omega]
      obtain ⟨cd, l, s', hc, hl', hl0, hs', hcase⟩ := stk_at sh lb 1 (by omega) hGO.out k (by omega)
      have hss : s' = s := by
        have := hs3.out
        rw [hs'] at this
        exact Option.some.inj this
      subst hss
      obtain ⟨x, rfl⟩ := Int.eq_ofNat_of_zero_le hl0
      simp only [Int.toNat_natCast] at hcase
      obtain ⟨b1, o1, c', rfl, hb1', hc', hcc⟩ := hs.at (k := k) (by omega)
      obtain ⟨b2, o2, l', rfl, hb2', hl'', hlc⟩ := hl.at (k := k) (by rw [hLEN.out]; omega)
      rw [hc] at hc'
      rw [hl'] at hl''
      injection hc' with hc'
      injection hl'' with hl''
      subst hc' hl''
      have hc0 := (hbr.cell (by show b1 < _; omega)).trans ((hb1.cell (by show b1 < _; omega)).trans (hcc 0 (by omega)))
      have hl0' := (hbr.cell (by show b2 < _; omega)).trans ((hb1.cell (by show b2 < _; omega)).trans (hlc 0 (by omega)))
      simp only [Nat.mul_one, Nat.add_zero, encI] at hc0 hl0'
      have hTr : IsTA wr.drew wr.drew.heap.size (.agg #[.int .i64 a.letters, .int .i64 a.states, .slice A1 a.accept.length c1, .slice A2 a.leaves.length c2, .slice A3 a.branches.length c3]) a := hHT.out.keep (fun _ hp => hbr.drew.cell hp) hszr
      have hTR := hide hTr
      have hkl := hLEN.out
      have hKL := hide hkl
      have hklb : k < lb.length := by omega
      clear hc hl' hs' hcc hlc hl0 hTr hs3 hkl
      have hcount := hsl.out
      rcases hcase with ⟨rfl, hnext⟩ | ⟨rfl, t1, t2, r, rfl, hnext⟩
      · have hNX := hide hnext
        clear hnext
        go_wp2_with fail
        refine Reg.region_plain [0, 0, 0, 0, 12, 28, 62, 126, 255, 511] (by kernel_rfl) (by repeat (first | exact Reg.NoQ.body (fun _ _ h => h) (fun _ h => h) | refine Reg.NoQ.then ?_ | refine Reg.NoQ.inBlock ?_)) ?_
        go_wp2_with (first | (go_at_call 81; refine Calls.ret (refLeaf_any _ a _ x hTR.out hV.out) ?_; rintro v w3 ⟨hb3, hM⟩; have hM3 := hide hM; have hb33 := hide hb3; have hsz3 := hb3.size; have hbase3 : w1.heap.size ≤ w3.heap.size := by omega
                              have hK3 := hide (hownd.out.keep (Kept.of_below hb3 (fun _ => False))); obtain ⟨gv, -, rfl, -, -⟩ := hM; clear hb3) | (at_builtin; refine wpList_app_new row111 rfl _ _ rfl w1.heap.size (.slice A s'.length c) s'.length _ rfl hK3.out.own [.slice (some ⟨gv, 0, none⟩) a.states.toNat a.states.toNat] 1 rfl rfl (by simp [Value.oneCell']) (by omega) hbase3 ?_; intro g cap' w4 hown4 hk4 hmv4 hg4))
        refine ⟨⟨k, .leaf x :: s', us ++ [.slice (some ⟨gv, 0, none⟩) a.states.toNat a.states.toNat], by go_num, by omega, hNX.out, ?_, by show _ ≤ _; simp; omega, ?_⟩, by simp [intOf]⟩
        · exact hK3.out.push hM3.out hk4 hown4
        · refine (hbr.drew.trans (hb33.out.mono hszr)).trans (hk4.below hbase3 (fun b hb e => ?_))
          have := own_base hK3.out.own e
          omega
      · have hNX := hide hnext
        clear hnext
        simp only [List.length_cons] at *
        obtain ⟨u1, u2, hu1, hu2, hM1, hM2⟩ := hownd.out.top
        obtain ⟨g, cap, hv1, hcl1⟩ := own_get hown.out.own hu1
        obtain ⟨g', cap', hv2, hcl2⟩ := own_get hown.out.own hu2
        injection hv1 with hv1 hv1l hv1c
        injection hv2 with hv2 hv2l hv2c
        subst hv1 hv1c hv2c
        injection hv2 with hv2
        injection hv2 with hv2
        subst hv2
        clear hv1l hv2l
        have hcap := own_cap hown.out.own
        have hMM1 := hide hM1
        have hMM2 := hide hM2
        obtain ⟨gu1, -, rfl, -, -⟩ := hM1
        obtain ⟨gu2, -, rfl, -, -⟩ := hM2
        clear hu1 hu2
        go_wp2_with fail
        refine Reg.region_ints' [0, 0, 0, 6, 14, 0, 0, 64, 224, 480, 0, 0, 2048, 7168, 15360, 32767, 65535] (by kernel_rfl) (by repeat (first | exact Reg.NoQ.body (fun _ _ h => h) (fun _ h => h) | refine Reg.NoQ.then ?_ | refine Reg.NoQ.inBlock ?_)) ?_
        intro Qf hQf
        go_wp2_with (go_at_call 82; refine Calls.ret (refBranch_any _ _ _ a _ _ _ x _ _ hTR.out hV.out hMM1.out hMM2.out) ?_; rintro v w3 ⟨hb3, hM⟩; have hM3 := hide hM; have hb33 := hide hb3; have hsz3 := hb3.size; have hbase3 : w1.heap.size ≤ w3.heap.size := by omega
                     have hK3 := hide (hownd.out.keep (Kept.of_below hb3 (fun _ => False))); obtain ⟨gv, -, rfl, -, -⟩ := hM; clear hb3)
        refine ⟨rfl, ?_⟩
        have hK5 := hide hK3.out.pop2
        go_wp2_with (at_builtin; refine wpList_app_new row111 rfl _ _ rfl w1.heap.size (.slice (some ⟨g, 0, none⟩) r.length c) r.length _ rfl hK5.out.own [.slice (some ⟨gv, 0, none⟩) a.states.toNat a.states.toNat] 1 rfl rfl (by simp [Value.oneCell']) (by omega) hbase3 ?_; intro g2 cap' w4 hown4 hk4 hmv4 hg4)
        refine ⟨⟨k, .node x t1 t2 :: r, us.take r.length ++ [.slice (some ⟨gv, 0, none⟩) a.states.toNat a.states.toNat], by go_num, by omega, hNX.out, ?_, by show _ ≤ _; simp; omega, ?_⟩, by simp [intOf]⟩
        · exact hK5.out.push hM3.out hk4 hown4
        · refine (hbr.drew.trans (hb33.out.mono hszr)).trans (hk4.below hbase3 (fun b hb e => ?_))
          have := own_base hK5.out.own e
          omega
    · have hi0 : i = 0 := by omega
      subst hi0
      rw [show (((0 : Nat) : Int) - 1) = -1 from rfl]
      have hs4 : s = [treeOf sh lb] := by
        have := hs3.out
        rw [List.drop_zero, List.drop_zero, hST.out] at this
        exact (Option.some.inj this).symm
      subst hs4
      obtain ⟨u, hu⟩ := get_lt (l := us) (i := 0) (by rw [hown.out.len]; simp)
      have hMd := hide (hownd.out.row 0 u (treeOf sh lb) hu (by simp))
      obtain ⟨g, cap, hv1, hcl⟩ := own_get hown.out.own hu
      injection hv1 with hv1 _ hv1c
      subst hv1 hv1c
      obtain ⟨gu, -, rfl, -, -⟩ := hMd.out
      have hbW := hide (hb1.trans (hbr.drew.mono hsz))
      have hSa := hide ((h1.below hbW.out).mono (B' := wr.drew.heap.size) (by omega))
      have hS' : (a.states.toNat : Int) = a.states := by omega
      have hACC' := hACC.out
      rw [← hS'] at hACC'
      have hAC := hide hACC'
      clear hs3 hown hsl hownd hu hACC'
      go_wp2_with fail
      refine Reg.region_plain [0, 1, 3, 0, 8, 31, 63] (by kernel_rfl) (by repeat (first | exact Reg.NoQ.body (fun _ _ h => h) (fun _ h => h) | refine Reg.NoQ.then ?_ | refine Reg.NoQ.inBlock ?_)) ?_
      go_wp2_with (go_at_call 83; refine (refMeets_any hMd.out hSa.out hAC.out).mono ?_; rintro e w3 ⟨rfl, rfl⟩; rw [TA.lang_marks hV.out])
      go_ret
      exact ⟨rfl, hbW.out⟩
end Go.Proofs.Ytnimlcbgeiajiaa

namespace Go.Proofs.Ytnimlcbgeiajiaa
open Go.RowKit

set_option maxHeartbeats 8000000 in
set_option maxRecDepth 100000 in
theorem refAccepts_any {v : Value} {a : TA} {w : World} {B1 B2 c1' c2' : Nat} {D1 D2 : Option Addr} {sh lb : List Int} (h : IsTA w w.heap.size v a) (hs : Sl w B1 1 encI D1 sh) (hl : Sl w B2 1 encI D2 lb) (hB1 : B1 ≤ w.heap.size) (hB2 : B2 ≤ w.heap.size) :
    Calls Try.prog 29 #[v, .slice D1 sh.length c1', .slice D2 lb.length c2'] w (Ret fun r w' => r = accT a sh lb ∧ Below w.heap.size w w') := by
  obtain ⟨A1, c1, A2, c2, A3, c3, rfl, h1, h2, h3⟩ := h
  obtain ⟨w1, hw1, hb1, hB, hk1⟩ := box_blk w #[.int .i64 a.letters, .int .i64 a.states, .slice A1 a.accept.length c1, .slice A2 a.leaves.length c2, .slice A3 a.branches.length c3] 26
  have hsz := hb1.size
  have hT : IsTA w1 w1.heap.size (.agg #[.int .i64 a.letters, .int .i64 a.states, .slice A1 a.accept.length c1, .slice A2 a.leaves.length c2, .slice A3 a.branches.length c3]) a :=
    ⟨A1, c1, A2, c2, A3, c3, rfl, (h1.below hb1).mono hsz, (h2.below hb1).mono hsz, (h3.below hb1).mono hsz⟩
  have hHT := hide hT
  have hcb := hB.cell
  clear hT
  cases hv : a.valid
  · have hV := hide hv
    clear hv
    have he : Hid (accT a sh lb = .tuple #[.bool false, .int .i64 1]) := by show _ = _; simp [accT, hV.out]
    go_enter Try.func29, Try.ntmps29
    go_wp2_with (go_at_call 19; refine (refValidate_any _ _ _ hHT.out).mono ?_; rintro e w2 ⟨rfl, hb⟩; rw [hV.out]; simp only [errno]; have hb2 := hide hb; clear hb)
    go_ret2
    exact ⟨he.out.symm, hb1.trans (hb2.out.mono hsz)⟩
  · have hV := hide hv
    clear hv
    obtain ⟨hL1, hL8, -, -, -, -, -, -⟩ := TA.valid_parts hV.out
    cases hvt : validT a.letters sh lb
    · have hVT := hide hvt
      clear hvt
      have he : Hid (accT a sh lb = .tuple #[.bool false, .int .i64 1]) := by show _ = _; simp [accT, hVT.out]
      go_enter Try.func29, Try.ntmps29
      go_wp2_with (first | (go_at_call 19; refine (refValidate_any _ _ _ hHT.out).mono ?_; rintro e w2 ⟨rfl, hb⟩; rw [hV.out]; simp only [errno]; have hb2 := hide hb; have hcb2 := (hB.kept (Kept.of_below hb (fun _ => False)) id).cell; have hs2 := hide ((hs.mono hB1).below (hb1.trans (hb.mono hsz))); have hl2 := hide ((hl.mono hB2).below (hb1.trans (hb.mono hsz))); clear hb) | (go_at_call 55; refine (refValidTree_any hs2.out hl2.out ⟨hL1, hL8⟩).mono ?_; rintro e w3 ⟨rfl, rfl⟩; rw [hVT.out]))
      go_ret2
      exact ⟨he.out.symm, hb1.trans (hb2.out.mono hsz)⟩
    · have hVT := hide hvt
      clear hvt
      have he : Hid (accT a sh lb = .tuple #[.bool (a.lang (treeOf sh lb)), .int .i64 0]) := by show _ = _; simp [accT, hV.out, hVT.out]
      go_enter Try.func29, Try.ntmps29
      go_wp2_with (first | (go_at_call 19; refine (refValidate_any _ _ _ hHT.out).mono ?_; rintro e w2 ⟨rfl, hb⟩; rw [hV.out]; simp only [errno]; have hb2 := hide hb; have hsz2 := hb.size; have hT2 := hide (hHT.out.keep (fun _ hp => hb.cell hp) hsz2); have hcb2 := (hB.kept (Kept.of_below hb (fun _ => False)) id).cell; have hs2 := hide ((hs.mono hB1).below (hb1.trans (hb.mono hsz))); have hl2 := hide ((hl.mono hB2).below (hb1.trans (hb.mono hsz))); clear hb) | (go_at_call 55; refine (refValidTree_any hs2.out hl2.out ⟨hL1, hL8⟩).mono ?_; rintro e w3 ⟨rfl, rfl⟩; rw [hVT.out])
                         | (go_at_call 56; refine Calls.ret (refaccepts_any hT2.out hs2.out hl2.out (by omega) (by omega) hV.out hVT.out) ?_; rintro v w4 ⟨rfl, hb4⟩; have hb44 := hide hb4; clear hb4))
      go_ret2
      exact ⟨he.out.symm, (hb1.trans (hb2.out.mono hsz)).trans (hb44.out.mono (by omega))⟩

set_option maxHeartbeats 4000000 in
theorem long_any {w : World} {B1 B2 c1 c2 : Nat} {A1 A2 : Option Addr} {sh lb : List Int} (h1 : Sl w B1 1 encI A1 sh) (h2 : Sl w B2 1 encI A2 lb) :
    Calls Try.prog 27 #[.agg #[.slice A1 sh.length c1, .slice A2 lb.length c2]] w (Ret fun r w' => r = .bool (decide (60 < sh.length) || decide (60 < lb.length)) ∧ Below w.heap.size w w') := by
  have hn1 := h1.1
  have hn2 := h2.1
  clear h1 h2
  by_cases hs : 60 < sh.length
  · go_enter Try.func27, Try.ntmps27
    go_wp2_with fail
    go_ret
    exact ⟨by simp, (Below.refl _ _).alloc (Nat.le_refl _) _⟩
  · by_cases hl : 60 < lb.length
    · go_enter Try.func27, Try.ntmps27
      go_wp2_with fail
      go_ret
      exact ⟨by simp [hl]; omega, (Below.refl _ _).alloc (Nat.le_refl _) _⟩
    · go_enter Try.func27, Try.ntmps27
      go_wp2_with fail
      go_ret
      exact ⟨by simp [hl, hs]; omega, (Below.refl _ _).alloc (Nat.le_refl _) _⟩

set_option maxHeartbeats 8000000 in
set_option maxRecDepth 100000 in
theorem lawAccepts {v : Value} {a : TA} {w : World} {c1' c2' : Nat} {D1 D2 : Option Addr} {sh lb : List Int} (h : IsTA w w.heap.size v a) (hs : Sl w w.heap.size 1 encI D1 sh) (hl : Sl w w.heap.size 1 encI D2 lb) :
    Calls Try.prog 6 #[v, .agg #[.slice D1 sh.length c1', .slice D2 lb.length c2']] w (Ret fun v w' => v = .bool true ∧ Below w.heap.size w w') := by
  obtain ⟨A1, c1, A2, c2, A3, c3, rfl, h1, h2, h3⟩ := h
  obtain ⟨w1, hw1, hb1, hB1, hk1⟩ := box_blk w #[.int .i64 a.letters, .int .i64 a.states, .slice A1 a.accept.length c1, .slice A2 a.leaves.length c2, .slice A3 a.branches.length c3] 26
  obtain ⟨w2, hw2, hb2, hB2, hk2⟩ := box_blk w1 #[.slice D1 sh.length c1', .slice D2 lb.length c2'] 40
  have hsz1 := hb1.size
  have hsz2 := hb2.size
  have hb02 := hb1.trans (hb2.mono hsz1)
  have hB12 := hB1.kept hk2 id
  have hcb1 := hB12.cell
  have hcb2 := hB2.cell
  have hT : IsTA w2 w2.heap.size (.agg #[.int .i64 a.letters, .int .i64 a.states, .slice A1 a.accept.length c1, .slice A2 a.leaves.length c2, .slice A3 a.branches.length c3]) a :=
    IsTA.keep ⟨A1, c1, A2, c2, A3, c3, rfl, h1, h2, h3⟩ (fun _ hp => hb02.cell hp) (by omega)
  have hTT := hide hT
  have hs2 := hide ((hs.below hb02).mono (B' := w2.heap.size) (by omega))
  have hl2 := hide ((hl.below hb02).mono (B' := w2.heap.size) (by omega))
  have hns := hs.1
  have hnl := hl.1
  clear hT h1 h2 h3
  go_enter Try.func6, Try.ntmps6
  go_wp2_with fail
  refine (Big_any _ a w2 hTT.out).mono ?_
  rintro e w3 ⟨rfl, hb3⟩
  have hb03 : Below w.heap.size w w3 := hb02.trans (hb3.mono (by omega))
  have hcb3 := (hB12.kept (Kept.of_below hb3 (fun _ => False)) id).cell
  have hB23 := hB2.kept (Kept.of_below hb3 (fun _ => False)) id
  have hdb3 := hB23.cell
  have hsz3 := hb3.size
  cases hbig : a.big with
  | true =>
    go_wp2_with fail
    refine Calls.ret (known_any w3) ?_
    rintro v w4 ⟨rfl, hb4⟩
    have hb04 := hide (hb03.trans (hb4.mono (by omega)))
    clear hb4
    go_wp2_with fail
    go_ret
    exact ⟨rfl, hb04.out⟩
  | false =>
    have hs3 := hide ((hs2.out.below hb3).mono hsz3)
    have hl3 := hide ((hl2.out.below hb3).mono hsz3)
    have hT3 := hide (hTT.out.keep (fun _ hp => hb3.cell hp) hsz3)
    go_wp2_with fail
    refine Calls.ret (long_any hs3.out hl3.out) ?_
    rintro v w4 ⟨rfl, hb4⟩
    have hb04 : Below w.heap.size w w4 := hb03.trans (hb4.mono (by omega))
    have hsz4 := hb4.size
    have hcb4 := ((hB12.kept (Kept.of_below hb3 (fun _ => False)) id).kept (Kept.of_below hb4 (fun _ => False)) id).cell
    have hB24 := hB23.kept (Kept.of_below hb4 (fun _ => False)) id
    have hdb4 := hB24.cell
    cases hlong : (decide (60 < sh.length) || decide (60 < lb.length)) with
    | true =>
      go_wp2_with fail
      refine Calls.ret (known_any w4) ?_
      rintro v w5 ⟨rfl, hb5⟩
      have hb05 := hide (hb04.trans (hb5.mono (by omega)))
      clear hb5
      go_wp2_with fail
      go_ret
      exact ⟨rfl, hb05.out⟩
    | false =>
      have hs4 := hide ((hs3.out.below hb4).mono hsz4)
      have hl4 := hide ((hl3.out.below hb4).mono hsz4)
      have hT4 := hide (hT3.out.keep (fun _ hp => hb4.cell hp) hsz4)
      clear hlong
      go_wp2_with fail
      refine Calls.ret (accepts_any hT4.out hs4.out hl4.out (Nat.le_refl _) (Nat.le_refl _)) ?_
      rintro v w5 ⟨rfl, hb5⟩
      have hb05 : Below w.heap.size w w5 := hb04.trans (hb5.mono (by omega))
      have hsz5 := hb5.size
      have hcb5 := (((hB12.kept (Kept.of_below hb3 (fun _ => False)) id).kept (Kept.of_below hb4 (fun _ => False)) id).kept (Kept.of_below hb5 (fun _ => False)) id).cell
      have hB25 := hB24.kept (Kept.of_below hb5 (fun _ => False)) id
      have hdb5 := hB25.cell
      have hs5 := hide ((hs4.out.below hb5).mono hsz5)
      have hl5 := hide ((hl4.out.below hb5).mono hsz5)
      have hT5 := hide (hT4.out.keep (fun _ hp => hb5.cell hp) hsz5)
      obtain ⟨x, y, hxy⟩ : ∃ x y, accT a sh lb = .tuple #[.bool x, .int .i64 y] := by
        unfold accT
        split
        · exact ⟨_, _, rfl⟩
        · exact ⟨_, _, rfl⟩
      rw [hxy]
      have HXY := hide hxy
      clear hxy
      go_wp2_with fail
      refine Calls.ret (refAccepts_any hT5.out hs5.out hl5.out (Nat.le_refl _) (Nat.le_refl _)) ?_
      rintro v w6 ⟨rfl, hb6⟩
      have hb06 : Below w.heap.size w w6 := hb05.trans (hb6.mono (by omega))
      have hsz6 := hb6.size
      rw [HXY.out]
      have heq1 : (x == x) = true := by simp
      have heq2 : (y == y) = true := by simp
      go_wp2_with fail
      refine Calls.ret (known_any w6) ?_
      rintro v w7 ⟨rfl, hb7⟩
      have hb07 := hide (hb06.trans (hb7.mono (by omega)))
      clear hb7
      go_wp2_with fail
      go_ret
      exact ⟨rfl, hb07.out⟩
end Go.Proofs.Ytnimlcbgeiajiaa
