/-
  The reference's minimal and Minimal: the walks.
-/
import Derived.Test.YtnimlcbgeiajiaaQH
import Derived.Test.YtnimlcbgeiajiaaQI
import Derived.Test.YtnimlcbgeiajiaaQE

namespace Go.Proofs.Ytnimlcbgeiajiaa
open Go.RowKit

theorem trees_of {S : Type} {L : Nat} {leaf : Nat → S} {br : Nat → S → S → S} : ∀ l : List S, (∀ s ∈ l, Reach L leaf br s) → ∃ ts : List Tr, (∀ t ∈ ts, t.ok L) ∧ ts.map (runT leaf br) = l
  | [], _ => ⟨[], by simp, rfl⟩
  | s :: l, h => by
    obtain ⟨ts, h1, h2⟩ := trees_of l fun s hs => h s (List.mem_cons_of_mem _ hs)
    obtain ⟨t, ht, he⟩ := reach_run.1 (h s List.mem_cons_self)
    refine ⟨t :: ts, fun u hu => ?_, by rw [List.map_cons, h2, he]⟩
    rcases List.mem_cons.1 hu with rfl | hu
    · exact ht
    · exact h1 u hu
theorem nodup_other {A B C : Type} {f : A → B} {g : A → C} {ts : List A} (h : (ts.map f).Nodup) (hg : ∀ t u, g t = g u → f t = f u) : (ts.map g).Nodup := by
  unfold List.Nodup at h ⊢
  rw [List.pairwise_map] at h ⊢
  exact h.imp fun h e => h (hg _ _ e)
theorem SameM.marks {S : Nat} {m m' : List Bool} {M : Nat} (h : SameM S m M) (h' : SameM S m' M) : m = m' := by
  apply List.ext_getElem?
  intro q
  by_cases hq : q < S
  · obtain ⟨a, ha⟩ := get_lt (l := m) (i := q) (by rw [h.1]; exact hq)
    obtain ⟨b, hb⟩ := get_lt (l := m') (i := q) (by rw [h'.1]; exact hq)
    have h1 := h.2 q hq
    have h2 := h'.2 q hq
    rw [ha] at h1
    rw [hb] at h2
    rw [ha, hb]
    exact congrArg some (h1.trans h2.symm)
  · rw [List.getElem?_eq_none (by rw [h.1]; omega), List.getElem?_eq_none (by rw [h'.1]; omega)]
section
variable {a : TA}
theorem TA.mask_high (hv : a.valid = true) (t : Tr) (q : Nat) (hq : a.states.toNat ≤ q) : (a.mask t).testBit q = false := by
  simp only [TA.valid, TA.head, Bool.and_eq_true, decide_eq_true_eq] at hv
  obtain ⟨⟨⟨⟨⟨⟨-, -⟩, h3⟩, -⟩, -⟩, h6⟩, h7⟩ := hv
  cases t with
  | leaf x =>
    show (leafM a.leaves x).testBit q = _
    have := tb_fold (f := fun e : Leaf => e.to) (c := fun e => decide (e.letter = (x : Int))) q a.leaves 0
    simp only [decide_eq_true_eq] at this
    unfold leafM
    rw [this, Nat.zero_testBit, Bool.false_or, Bool.eq_false_iff, Ne, List.any_eq_true]
    rintro ⟨e, he, h⟩
    have h1 := List.all_eq_true.1 h6 e he
    simp only [okLeaf, inR, Bool.and_eq_true, decide_eq_true_eq] at h1 h
    omega
  | node x s u =>
    show (brM (a.mask s) (a.mask u) (byL a.branches x)).testBit q = _
    have := tb_fold (f := fun e : Branch => e.to) (c := fun e => mBit (a.mask s) e.first && mBit (a.mask u) e.second) q (byL a.branches x) 0
    unfold brM
    rw [this, Nat.zero_testBit, Bool.false_or, Bool.eq_false_iff, Ne, List.any_eq_true]
    rintro ⟨e, he, h⟩
    have h1 := List.all_eq_true.1 h7 e (List.mem_filter.1 he).1
    simp only [okBranch, inR, Bool.and_eq_true, decide_eq_true_eq] at h1 h
    omega
theorem TA.mask_of (hv : a.valid = true) (t u : Tr) (h : a.marks t = a.marks u) : a.mask t = a.mask u := by
  apply Nat.eq_of_testBit_eq
  intro q
  by_cases hq : q < a.states.toNat
  · rw [← (TA.same_marks hv t).2 q hq, ← (TA.same_marks hv u).2 q hq, h]
  · rw [TA.mask_high hv t q (by omega), TA.mask_high hv u q (by omega)]
theorem TA.marks_of (hv : a.valid = true) (t u : Tr) (h : a.mask t = a.mask u) : a.marks t = a.marks u := by
  have h1 := TA.same_marks hv t
  have h2 := TA.same_marks hv u
  rw [h] at h1
  exact h1.marks h2
theorem TA.large_of (hv : a.valid = true) {l : List (List Bool)} (hn : l.Nodup) (hR : ∀ s ∈ l, Reach a.letters.toNat (leafR a.states.toNat a.leaves) (brR a.states.toNat a.branches) s) (hl : 64 < l.length) : a.Large := by
  obtain ⟨ts, h1, h2⟩ := trees_of l hR
  refine ⟨ts.map a.mask, nodup_other (f := a.marks) (by rw [show ts.map a.marks = l from h2]; exact hn) (fun t u h => TA.marks_of hv t u h), fun s hs => ?_, by rw [List.length_map, ← List.length_map (f := runT (leafR a.states.toNat a.leaves) (brR a.states.toNat a.branches)), h2]; exact hl⟩
  obtain ⟨t, ht, rfl⟩ := List.mem_map.1 hs
  exact reach_run.2 ⟨t, h1 t ht, rfl⟩
theorem sub_len' {D : Type} [DecidableEq D] : ∀ (l m : List D), l.Nodup → (∀ a ∈ l, a ∈ m) → l.length ≤ m.length
  | [], _, _, _ => Nat.zero_le _
  | a :: l, m, hn, hs => by
    obtain ⟨m1, m2, rfl⟩ := List.append_of_mem (hs a List.mem_cons_self)
    have hn' := List.nodup_cons.1 hn
    have h1 := sub_len' l (m1 ++ m2) hn'.2 (fun b hb => by
      have h2 := hs b (List.mem_cons_of_mem _ hb)
      have hne : b ≠ a := fun e => hn'.1 (e ▸ hb)
      simp only [List.mem_append, List.mem_cons] at h2 ⊢
      rcases h2 with h2 | h2 | h2
      · exact .inl h2
      · exact (hne h2).elim
      · exact .inr h2)
    simp only [List.length_append, List.length_cons] at h1 ⊢
    omega
theorem TA.not_large (hv : a.valid = true) {l : List (List Bool)} (hE : Expl a.letters.toNat (leafR a.states.toNat a.leaves) (brR a.states.toNat a.branches) l l.length) (hl : l.length ≤ 64) : ¬ a.Large := by
  rintro ⟨l', h1, h2, h3⟩
  obtain ⟨ts, h4, h5⟩ := trees_of l' h2
  have h6 : (ts.map a.marks).Nodup := nodup_other (f := a.mask) (by rw [show ts.map a.mask = l' from h5]; exact h1) (fun t u h => TA.mask_of hv t u h)
  have h7 := sub_len' (ts.map a.marks) l h6 fun s hs => by
    obtain ⟨t, ht, rfl⟩ := List.mem_map.1 hs
    exact (hE.all _).2 (reach_run.2 ⟨t, h4 t ht, rfl⟩)
  have h8 : ts.length = l'.length := by rw [← h5, List.length_map]
  rw [List.length_map] at h7
  omega
end

/-- What the reference's minimal returns. -/
def RMinRes (w' : World) (base : Nat) (a : TA) (v : Value) : Prop :=
  (a.Large ∧ v = .tuple #[zeroTA, .int .i64 4]) ∨
  (¬ a.Large ∧ ∃ ac lf t va, v = .tuple #[va, .int .i64 0] ∧ MOK a.letters.toNat ac lf t ∧ ac.length ≤ 64 ∧ Canon a.letters.toNat ac.length (mleaf lf) (mbr t) (macc ac) a.lang ∧
    OwnTA w' base va a.letters.toNat ac.length (accIdx ac) (plLv lf) (plBr a.letters.toNat ac.length t))

theorem TblF.lists {w : World} {L : Nat} {S : Type} [DecidableEq S] {vl vb va : Value} {leaf : Nat → S} {br : Nat → S → S → S} {acc : S → Bool} {l : List S} (h : TblF w L l.length vl vb va (tabLf leaf l) (tabBr br l) (macc (l.map acc))) :
    TblF w L (l.map acc).length vl vb va (mleaf (mkLf L (tabLf leaf l))) (mbr (mkTab L l.length (tabBr br l))) (macc (l.map acc)) := by
  rw [List.length_map]
  exact h.congr (fun x hx => (mkLf_get hx).symm) (fun x i k hx hi hk => (mkTab_get hx hi hk).symm) (fun _ _ => rfl)

set_option maxHeartbeats 8000000 in
set_option maxRecDepth 100000 in
theorem refmin_any (v : Value) (a : TA) (w : World) (h : IsTA w w.heap.size v a) (hv : a.valid = true) :
    Calls Try.prog 49 #[v] w (Ret fun v w' => Below w.heap.size w w' ∧ RMinRes w' w.heap.size a v) := by
  have hv' := hv
  simp only [TA.valid, TA.head, Bool.and_eq_true, decide_eq_true_eq] at hv'
  obtain ⟨⟨⟨⟨⟨⟨hL1, hL8⟩, hS0⟩, -⟩, -⟩, -⟩, -⟩ := hv'
  have hlang : ∀ t, meetsR a.accept (a.marks t) = a.lang t := fun t => TA.lang_marks hv t
  have hbig := fun (l : List (List Bool)) hn hR hl => TA.large_of (a := a) hv (l := l) hn hR hl
  have hsml := fun (l : List (List Bool)) hE hl => TA.not_large (a := a) hv (l := l) hE hl
  obtain ⟨L, S, acc, lv, brs⟩ := a
  dsimp only at *
  obtain ⟨L, rfl⟩ := Int.eq_ofNat_of_zero_le (show 0 ≤ L by omega)
  obtain ⟨S, rfl⟩ := Int.eq_ofNat_of_zero_le hS0
  simp only [Int.toNat_natCast] at hbig hsml
  unfold RMinRes
  dsimp only
  simp only [Int.toNat_natCast]
  obtain ⟨A1, c1, A2, c2, A3, c3, rfl, h1, h2, h3⟩ := h
  obtain ⟨w1, hw1, hb1, hB1, hk1⟩ := box_blk w #[.int .i64 (L : Int), .int .i64 (S : Int), .slice A1 acc.length c1, .slice A2 lv.length c2, .slice A3 brs.length c3] 26
  obtain ⟨w2, hw2, hb2, hB2, hk2⟩ := box_blk w1 #[.int .i64 0, .int .i64 0, .slice none 0 0, .slice none 0 0, .slice none 0 0] 26
  have hsz1 := hb1.size
  have hsz2 := hb2.size
  have hlt2 := hB2.lt
  have hb02 := hb1.trans (hb2.mono hsz1)
  have hT : IsTA w2 w2.heap.size (.agg #[.int .i64 (L : Int), .int .i64 (S : Int), .slice A1 acc.length c1, .slice A2 lv.length c2, .slice A3 brs.length c3]) ⟨(L : Int), (S : Int), acc, lv, brs⟩ :=
    IsTA.keep (B := w.heap.size) ⟨A1, c1, A2, c2, A3, c3, rfl, h1, h2, h3⟩ (fun _ hp => hb02.cell hp) (by omega)
  have hTT := hide hT
  have hvv := hide hv
  have hll := hide hlang
  have hbb := hide hbig
  have hss := hide hsml
  have hc1 := (hB1.below hb2).cell
  clear hT hv h1 h2 h3 hlang hbig hsml
  go_enter Try.func49, Try.ntmps49
  go_wp2_with fail
  refine Calls.ret (subsets_any (m := 64) hTT.out hvv.out (.inl rfl)) ?_
  rintro v w3 ⟨hb3, hres⟩
  have hB23 := hB2.below hb3
  have hc23 := hB23.cell
  have hf23 := hB23.frozen
  have hl23 := hB23.lt
  have hb03 := hb02.trans (hb3.mono (by omega))
  have hs3 := hb3.size
  rcases hres with ⟨-, rfl, l, hnd, hR, h64⟩ | ⟨l, vl, vb, va, rfl, hE, h64, -, hF⟩
  · have hLg := hide (hbb.out l hnd hR h64)
    have hbH := hide hb03
    obtain ⟨w4, hw4, hb4, hB4, hk4⟩ := box_blk w3 #[.int .i64 0, .slice none 0 0, .slice none 0 0, .slice none 0 0] 84
    obtain ⟨w5, hw5, hg5, hk5⟩ := set4t_facts hB4 (.int .i64 0) (.slice none 0 0) (.slice none 0 0) (.slice none 0 0)
    have hb35 : Below w3.heap.size w3 w5 := hb4.trans (hk5.below hb4.size fun b hb e => by omega)
    have hc4 := hB4.cell
    have hf4 := hB4.frozen
    have hl4 := hB4.lt
    have hB25 := hB23.below hb35
    have hc25 := hB25.cell
    have hf25 := hB25.frozen
    have hl25 := hB25.lt
    have hw5' := hw5
    simp only [set4t] at hw5'
    clear hnd hR hb03 hb3 hc1 hw5 hc23 hf23
    go_wp2_with fail
    obtain ⟨wF, hwF, hgF, hkF⟩ := set5_facts hB25 (.int .i64 0) (.int .i64 0) (.slice none 0 0) (.slice none 0 0) (.slice none 0 0)
    change bodyPost _ _ _ _ _ (set5 w5 w1.heap.size (.int .i64 0) (.int .i64 0) (.slice none 0 0) (.slice none 0 0) (.slice none 0 0))
    rw [hwF]
    have hcF := hgF.cell
    have hs5 := hb35.size
    exact bodyPost_ret (v := .tuple #[zeroTA, .int .i64 4]) (by simp [results, Try.results49, go_sem, hcF, zeroTA]) rfl ⟨(hbH.out.trans (hb35.mono (by omega))).trans (hkF.below (by omega) fun b hb e => by omega), .inl ⟨hLg.out, rfl⟩⟩
  · have hnl := hide (hss.out l hE (h64 rfl))
    obtain ⟨hok, hrun, hacc⟩ := hE.machine (acc := meetsR acc)
    have hOK := hide hok
    have hacH := hide hacc
    have hFL := hF.lists
    have hlen : (l.map (meetsR acc)).length ≤ 64 := by rw [List.length_map]; exact h64 rfl
    obtain ⟨gaq, caq, rfl, -⟩ := hF.acc
    obtain ⟨glq, clq, rfl, -⟩ := hF.leaf
    obtain ⟨gvq, cvq, -, -, -, -, rfl, -⟩ := hF.tab
    obtain ⟨w4, hw4, hb4, hB4, hk4⟩ := box_blk w3 #[.int .i64 0, .slice none 0 0, .slice none 0 0, .slice none 0 0] 84
    obtain ⟨w5, hw5, hg5, hk5⟩ := set4t_facts hB4 (.int .i64 (L : Int)) (.slice (some ⟨glq, 0, none⟩) L clq) (.slice (some ⟨gvq, 0, none⟩) L cvq) (.slice (some ⟨gaq, 0, none⟩) l.length caq)
    have hb35 : Below w3.heap.size w3 w5 := hb4.trans (hk5.below hb4.size fun b hb e => by omega)
    have hF5 := hide (hFL.below hb35)
    have hc4 := hB4.cell
    have hf4 := hB4.frozen
    have hl4 := hB4.lt
    have hc5 := hg5.cell
    have hB25 := hide (hB23.below hb35)
    have hbH := hide (hb03.trans (hb35.mono (by omega)))
    have hs5 := hb35.size
    have hw5' := hw5
    simp only [set4t] at hw5'
    have hL8' : L ≤ 8 := by omega
    have hL1' : 1 ≤ L := by omega
    clear hok hrun hacc hE hF hFL hb03 hb3 hc1 hc23 hf23 hw5 hg5 hk5 hb35 h64
    go_wp2_with (go_at_call 60; refine Calls.ret (canonical_any hF5.out hOK.out (by omega) hL8' hL1') ?_; rintro v6 w6 ⟨hb6, ac', lf', t', hok', hle', hcan', va', vl', vb', rfl, ho1, ho2, ho3⟩
                 obtain ⟨A5, d5, rfl⟩ := slice_of_own ho1
                 obtain ⟨A6, d6, rfl⟩ := slice_of_own ho2
                 obtain ⟨A7, d7, rfl⟩ := slice_of_own ho3
                 have hB26 := hB25.out.below hb6
                 have hc26 := hB26.cell
                 have hf26 := hB26.frozen
                 have hl26 := hB26.lt
                 have hB6H := hide hB26
                 have hb6H := hide hb6
                 have hok6 := hide hok'
                 have hcan6 := hide hcan'
                 have ho1H := hide ho1
                 have ho2H := hide ho2
                 have ho3H := hide ho3
                 clear hB26 hb6 hok' hcan' ho1 ho2 ho3 hc4 hf4 hc5)
    obtain ⟨wF, hwF, hgF, hkF⟩ := set5_facts hB6H.out (.int .i64 (L : Int)) (.int .i64 (ac'.length : Int)) (.slice A5 (accIdx ac').length d5) (.slice A6 (plLv lf').length d6) (.slice A7 (plBr L ac'.length t').length d7)
    change bodyPost _ _ _ _ _ (set5 w6 w1.heap.size (.int .i64 (L : Int)) (.int .i64 (ac'.length : Int)) (.slice A5 (accIdx ac').length d5) (.slice A6 (plLv lf').length d6) (.slice A7 (plBr L ac'.length t').length d7))
    rw [hwF]
    have hcF := hgF.cell
    have hs6 := hb6H.out.size
    have hne : ∀ e, e ≠ 26 → ∀ g cs, g = w1.heap.size → ¬ Blk w6 g e cs := fun e he g cs eg hb => by subst eg; exact hB6H.out.ne_ hb (fun h => he h.symm) rfl
    have hc := hcan6.out
    refine bodyPost_ret (v := .tuple #[.agg #[.int .i64 (L : Int), .int .i64 (ac'.length : Int), .slice A5 (accIdx ac').length d5, .slice A6 (plLv lf').length d6, .slice A7 (plBr L ac'.length t').length d7], .int .i64 0]) (by simp [results, Try.results49, go_sem, hcF]) rfl
      ⟨(hbH.out.trans (hb6H.out.mono (by omega))).trans (hkF.below (by omega) fun b hb e => by omega), .inr ⟨hnl.out, ac', lf', t', _, rfl, hok6.out, by omega, ?_, _, _, _, rfl, ?_, ?_, ?_⟩⟩
    · have he : ∀ tr : Tr, tr.ok L → macc (l.map (meetsR acc)) (runT (mleaf (mkLf L (tabLf (leafR S lv) l))) (mbr (mkTab L l.length (tabBr (brR S brs) l))) tr) = TA.lang ⟨(L : Int), (S : Int), acc, lv, brs⟩ tr := fun tr htr => (hacH.out tr htr).trans (hll.out tr)
      exact ⟨hc.isM, fun tr htr => (hc.lang tr htr).trans (he tr htr), fun tr u htr hu hq => hc.sep tr u htr hu fun r => EqT.congr (fun tr htr => (he tr htr).symm) r tr u htr hu (hq r), hc.ord⟩
    · exact own_weak (own_ty hkF ho1H.out (hne 3 (by decide))) (by omega)
    · exact own_weak (own_ty hkF ho2H.out (hne 36 (by decide))) (by omega)
    · exact own_weak (own_ty hkF ho3H.out (hne 59 (by decide))) (by omega)

set_option maxHeartbeats 8000000 in
set_option maxRecDepth 100000 in
theorem refMinimal_any (v : Value) (a : TA) (w : World) (h : IsTA w w.heap.size v a) :
    Calls Try.prog 22 #[v] w (Ret fun v w' => Below w.heap.size w w' ∧ MinimalRes w' w.heap.size a v) := by
  obtain ⟨A1, c1, A2, c2, A3, c3, rfl, h1, h2, h3⟩ := h
  obtain ⟨w1, hw1, hb1, hB1, hk1⟩ := box_blk w #[.int .i64 a.letters, .int .i64 a.states, .slice A1 a.accept.length c1, .slice A2 a.leaves.length c2, .slice A3 a.branches.length c3] 26
  obtain ⟨w2, hw2, hb2, hB2, hk2⟩ := box_blk w1 #[.int .i64 0, .int .i64 0, .slice none 0 0, .slice none 0 0, .slice none 0 0] 26
  have hsz1 := hb1.size
  have hsz2 := hb2.size
  have hB12 := hB1.kept hk2 id
  have hcb := hB12.cell
  have hb02 : Below w.heap.size w w2 := hb1.trans (hb2.mono hsz1)
  have hT : IsTA w2 w2.heap.size (.agg #[.int .i64 a.letters, .int .i64 a.states, .slice A1 a.accept.length c1, .slice A2 a.leaves.length c2, .slice A3 a.branches.length c3]) a :=
    IsTA.keep ⟨A1, c1, A2, c2, A3, c3, rfl, h1, h2, h3⟩ (fun _ hp => hb02.cell hp) (by omega)
  have hTT := hide hT
  clear hT h1 h2 h3
  go_enter Try.func22, Try.ntmps22
  go_wp2_with fail
  refine (refValidate_any _ a w2 hTT.out).mono ?_
  rintro e w3 ⟨rfl, hb3⟩
  have hB13 := hB12.below hb3
  have hB23 := hB2.below hb3
  have hcb3 := hB13.cell
  have hc23 := hB23.cell
  have hf23 := hB23.frozen
  have hsz3 := hb3.size
  have hlt3 := hB23.lt
  have hb03 : Below w.heap.size w w3 := hb02.trans (hb3.mono (by omega))
  cases hv : a.valid with
  | false =>
    have hvv := hide hv
    clear hv
    have he : errno false = 1 := rfl
    rw [he]
    go_wp2_with fail
    obtain ⟨wF, hwF, hgF, hkF⟩ := set5_facts hB23 (.int .i64 0) (.int .i64 0) (.slice none 0 0) (.slice none 0 0) (.slice none 0 0)
    change bodyPost _ _ _ _ _ (set5 w3 w1.heap.size (.int .i64 0) (.int .i64 0) (.slice none 0 0) (.slice none 0 0) (.slice none 0 0))
    rw [hwF]
    have hcF := hgF.cell
    exact bodyPost_ret (v := .tuple #[zeroTA, .int .i64 1]) (by simp [results, Try.results22, go_sem, hcF, zeroTA]) rfl ⟨hb03.trans (hkF.below (by omega) (fun b hb e => by omega)), .inl ⟨hvv.out, rfl⟩⟩
  | true =>
    have hvv := hide hv
    clear hv
    have he : errno true = 0 := rfl
    rw [he]
    have hT3 : IsTA w3 w3.heap.size (.agg #[.int .i64 a.letters, .int .i64 a.states, .slice A1 a.accept.length c1, .slice A2 a.leaves.length c2, .slice A3 a.branches.length c3]) a := hTT.out.keep (fun _ hp => hb3.cell hp) hsz3
    have hT33 := hide hT3
    clear hT3 he
    go_wp2_with fail
    refine Calls.ret (refmin_any _ a w3 hT33.out hvv.out) ?_
    rintro v w4 ⟨hb4, hres⟩
    have hB24 := hB23.below hb4
    have hc24 := hB24.cell
    have hf24 := hB24.frozen
    have hsz4 := hb4.size
    have hlt4 := hB24.lt
    have hb04 : Below w.heap.size w w4 := hb03.trans (hb4.mono (by omega))
    rcases hres with ⟨hlg, rfl⟩ | ⟨hnl, ac, lf, t, va, rfl, hok, hle, hcan, vac, vlv, vbr, rfl, ho1, ho2, ho3⟩
    · have hL := hide hlg
      clear hlg
      unfold zeroTA
      go_wp2_with fail
      obtain ⟨wF, hwF, hgF, hkF⟩ := set5_facts hB24 (.int .i64 0) (.int .i64 0) (.slice none 0 0) (.slice none 0 0) (.slice none 0 0)
      change bodyPost _ _ _ _ _ (set5 w4 w1.heap.size (.int .i64 0) (.int .i64 0) (.slice none 0 0) (.slice none 0 0) (.slice none 0 0))
      rw [hwF]
      have hcF := hgF.cell
      exact bodyPost_ret (v := .tuple #[zeroTA, .int .i64 4]) (by simp [results, Try.results22, go_sem, hcF, zeroTA]) rfl ⟨hb04.trans (hkF.below (by omega) (fun b hb e => by omega)), .inr (.inl ⟨hvv.out, hL.out, rfl⟩)⟩
    · obtain ⟨A5, d5, rfl⟩ := slice_of_own ho1
      obtain ⟨A6, d6, rfl⟩ := slice_of_own ho2
      obtain ⟨A7, d7, rfl⟩ := slice_of_own ho3
      have hOO := hide hok
      have hNL := hide hnl
      have hCC := hide hcan
      have ho1H := hide ho1
      have ho2H := hide ho2
      have ho3H := hide ho3
      clear hok hnl hcan ho1 ho2 ho3 hc23 hf23 hcb3 hcb
      generalize hLe : a.letters.toNat = L at *
      have hLh := hide hLe
      clear hLe
      go_wp2_with fail
      obtain ⟨wF, hwF, hgF, hkF⟩ := set5_facts hB24 (.int .i64 (L : Int)) (.int .i64 (ac.length : Int)) (.slice A5 (accIdx ac).length d5) (.slice A6 (plLv lf).length d6) (.slice A7 (plBr L ac.length t).length d7)
      change bodyPost _ _ _ _ _ (set5 w4 w1.heap.size (.int .i64 (L : Int)) (.int .i64 (ac.length : Int)) (.slice A5 (accIdx ac).length d5) (.slice A6 (plLv lf).length d6) (.slice A7 (plBr L ac.length t).length d7))
      rw [hwF]
      have hcF := hgF.cell
      have hLx := hLh.out
      subst hLx
      have hne : ∀ e, e ≠ 26 → ∀ g cs, g = w1.heap.size → ¬ Blk w4 g e cs := fun e he g cs eg hb => by subst eg; exact hB24.ne_ hb (fun h => he h.symm) rfl
      refine bodyPost_ret (v := .tuple #[.agg #[.int .i64 (a.letters.toNat : Int), .int .i64 (ac.length : Int), .slice A5 (accIdx ac).length d5, .slice A6 (plLv lf).length d6, .slice A7 (plBr a.letters.toNat ac.length t).length d7], .int .i64 0]) (by simp [results, Try.results22, go_sem, hcF]) rfl ⟨hb04.trans (hkF.below (by omega) (fun b hb e => by omega)), .inr (.inr ⟨hvv.out, hNL.out, ac, lf, t, _, rfl, hOO.out, hle, hCC.out, _, _, _, rfl, ?_, ?_, ?_⟩)⟩
      · exact own_weak (own_ty hkF ho1H.out (hne 3 (by decide))) (by omega)
      · exact own_weak (own_ty hkF ho2H.out (hne 36 (by decide))) (by omega)
      · exact own_weak (own_ty hkF ho3H.out (hne 59 (by decide))) (by omega)
end Go.Proofs.Ytnimlcbgeiajiaa
