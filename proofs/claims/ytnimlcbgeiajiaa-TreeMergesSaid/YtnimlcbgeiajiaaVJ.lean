/-
  The reference's minimal and Minimal: the walks.
  Results of operations by relation; the canonical machine of the other trees: plain Lean.
  The reference's table: the table of a canonical automaton.
  The reference's table: the walk joined.
-/
import Derived.Test.YtnimlcbgeiajiaaVH
import Derived.Test.YtnimlcbgeiajiaaVI
import Derived.Test.YtnimlcbgeiajiaaVE

namespace Go.Proofs.Ytnimlcbgeiajiaa
open Go.RowKit

theorem trees_of {S : Type} {L : Nat} {leaf : Nat → S} {br : Nat → S → S → S} : ∀ l : List S, (∀ s ∈ l, Reach L leaf br s) → ∃ ts : List Tr, (∀ t ∈ ts, t.ok L) ∧ ts.map (runT leaf br) = l
  | [], _ => ⟨[], by simp, rfl⟩
  | s :: l, h => by
    obtain ⟨ts, h1, h2⟩ := trees_of l fun s hs => h s (List.mem_cons_of_mem _ hs)
    obtain ⟨t, ht, he⟩ := reach_run.1 (h s List.mem_cons_self)
    refine ⟨t :: ts, fun u hu => ?_, by rw [List.map_cons, h2, he]⟩
    rcases List.mem_cons.1 hu with rfl | hu
    · exact ht
    · exact h1 u hu
theorem nodup_other {A B C : Type} {f : A → B} {g : A → C} {ts : List A} (h : (ts.map f).Nodup) (hg : ∀ t u, g t = g u → f t = f u) : (ts.map g).Nodup := by
  unfold List.Nodup at h ⊢
  rw [List.pairwise_map] at h ⊢
  exact h.imp fun h e => h (hg _ _ e)
theorem SameM.marks {S : Nat} {m m' : List Bool} {M : Nat} (h : SameM S m M) (h' : SameM S m' M) : m = m' := by
  apply List.ext_getElem?
  intro q
  by_cases hq : q < S
  · obtain ⟨a, ha⟩ := get_lt (l := m) (i := q) (by rw [h.1]; exact hq)
    obtain ⟨b, hb⟩ := get_lt (l := m') (i := q) (by rw [h'.1]; exact hq)
    have h1 := h.2 q hq
    have h2 := h'.2 q hq
    rw [ha] at h1
    rw [hb] at h2
    rw [ha, hb]
    exact congrArg some (h1.trans h2.symm)
  · rw [List.getElem?_eq_none (by rw [h.1]; omega), List.getElem?_eq_none (by rw [h'.1]; omega)]
section
variable {a : TA}
theorem TA.mask_high (hv : a.fit5 = true) (t : Tr) (q : Nat) (hq : a.states.toNat ≤ q) : (a.mask t).testBit q = false := by
  simp only [TA.fit5, TA.head5, Bool.and_eq_true, decide_eq_true_eq] at hv
  obtain ⟨⟨⟨⟨⟨⟨-, -⟩, h3⟩, -⟩, -⟩, h6⟩, h7⟩ := hv
  cases t with
  | leaf x =>
    show (leafM a.leaves x).testBit q = _
    have := tb_fold (f := fun e : Leaf => e.to) (c := fun e => decide (e.letter = (x : Int))) q a.leaves 0
    simp only [decide_eq_true_eq] at this
    unfold leafM
    rw [this, Nat.zero_testBit, Bool.false_or, Bool.eq_false_iff, Ne, List.any_eq_true]
    rintro ⟨e, he, h⟩
    have h1 := List.all_eq_true.1 h6 e he
    simp only [okLeaf, inR, Bool.and_eq_true, decide_eq_true_eq] at h1 h
    omega
  | node x s u =>
    show (brM (a.mask s) (a.mask u) (byL a.branches x)).testBit q = _
    have := tb_fold (f := fun e : Branch => e.to) (c := fun e => mBit (a.mask s) e.first && mBit (a.mask u) e.second) q (byL a.branches x) 0
    unfold brM
    rw [this, Nat.zero_testBit, Bool.false_or, Bool.eq_false_iff, Ne, List.any_eq_true]
    rintro ⟨e, he, h⟩
    have h1 := List.all_eq_true.1 h7 e (List.mem_filter.1 he).1
    simp only [okBranch, inR, Bool.and_eq_true, decide_eq_true_eq] at h1 h
    omega
theorem TA.mask_of (hv : a.fit5 = true) (t u : Tr) (h : a.marks t = a.marks u) : a.mask t = a.mask u := by
  apply Nat.eq_of_testBit_eq
  intro q
  by_cases hq : q < a.states.toNat
  · rw [← (TA.same_marks hv t).2 q hq, ← (TA.same_marks hv u).2 q hq, h]
  · rw [TA.mask_high hv t q (by omega), TA.mask_high hv u q (by omega)]
theorem TA.marks_of (hv : a.fit5 = true) (t u : Tr) (h : a.mask t = a.mask u) : a.marks t = a.marks u := by
  have h1 := TA.same_marks hv t
  have h2 := TA.same_marks hv u
  rw [h] at h1
  exact h1.marks h2
theorem TA.large_of (hv : a.fit5 = true) {l : List (List Bool)} (hn : l.Nodup) (hR : ∀ s ∈ l, Reach a.letters.toNat (leafR a.states.toNat a.leaves) (brR a.states.toNat a.branches) s) (hl : 64 < l.length) : a.Large := by
  obtain ⟨ts, h1, h2⟩ := trees_of l hR
  refine ⟨ts.map a.mask, nodup_other (f := a.marks) (by rw [show ts.map a.marks = l from h2]; exact hn) (fun t u h => TA.marks_of hv t u h), fun s hs => ?_, by rw [List.length_map, ← List.length_map (f := runT (leafR a.states.toNat a.leaves) (brR a.states.toNat a.branches)), h2]; exact hl⟩
  obtain ⟨t, ht, rfl⟩ := List.mem_map.1 hs
  exact reach_run.2 ⟨t, h1 t ht, rfl⟩
theorem sub_len' {D : Type} [DecidableEq D] : ∀ (l m : List D), l.Nodup → (∀ a ∈ l, a ∈ m) → l.length ≤ m.length
  | [], _, _, _ => Nat.zero_le _
  | a :: l, m, hn, hs => by
    obtain ⟨m1, m2, rfl⟩ := List.append_of_mem (hs a List.mem_cons_self)
    have hn' := List.nodup_cons.1 hn
    have h1 := sub_len' l (m1 ++ m2) hn'.2 (fun b hb => by
      have h2 := hs b (List.mem_cons_of_mem _ hb)
      have hne : b ≠ a := fun e => hn'.1 (e ▸ hb)
      simp only [List.mem_append, List.mem_cons] at h2 ⊢
      rcases h2 with h2 | h2 | h2
      · exact .inl h2
      · exact (hne h2).elim
      · exact .inr h2)
    simp only [List.length_append, List.length_cons] at h1 ⊢
    omega
theorem TA.not_large (hv : a.fit5 = true) {l : List (List Bool)} (hE : Expl a.letters.toNat (leafR a.states.toNat a.leaves) (brR a.states.toNat a.branches) l l.length) (hl : l.length ≤ 64) : ¬ a.Large := by
  rintro ⟨l', h1, h2, h3⟩
  obtain ⟨ts, h4, h5⟩ := trees_of l' h2
  have h6 : (ts.map a.marks).Nodup := nodup_other (f := a.mask) (by rw [show ts.map a.mask = l' from h5]; exact h1) (fun t u h => TA.mask_of hv t u h)
  have h7 := sub_len' (ts.map a.marks) l h6 fun s hs => by
    obtain ⟨t, ht, rfl⟩ := List.mem_map.1 hs
    exact (hE.all _).2 (reach_run.2 ⟨t, h4 t ht, rfl⟩)
  have h8 : ts.length = l'.length := by rw [← h5, List.length_map]
  rw [List.length_map] at h7
  omega
end

/-- What the reference's minimal returns. -/
def RMinRes (w' : World) (base : Nat) (a : TA) (v : Value) : Prop :=
  (a.Large ∧ v = .tuple #[zeroTA, .int .i64 4]) ∨
  (¬ a.Large ∧ ∃ ac lf t va, v = .tuple #[va, .int .i64 0] ∧ MOK a.letters.toNat ac lf t ∧ ac.length ≤ 64 ∧ Canon a.letters.toNat ac.length (mleaf lf) (mbr t) (macc ac) a.lang ∧
    OwnTA w' base va a.letters.toNat ac.length (accIdx ac) (plLv lf) (plBr a.letters.toNat ac.length t))

theorem TblF.lists {w : World} {L : Nat} {S : Type} [DecidableEq S] {vl vb va : Value} {leaf : Nat → S} {br : Nat → S → S → S} {acc : S → Bool} {l : List S} (h : TblF w L l.length vl vb va (tabLf leaf l) (tabBr br l) (macc (l.map acc))) :
    TblF w L (l.map acc).length vl vb va (mleaf (mkLf L (tabLf leaf l))) (mbr (mkTab L l.length (tabBr br l))) (macc (l.map acc)) := by
  rw [List.length_map]
  exact h.congr (fun x hx => (mkLf_get hx).symm) (fun x i k hx hi hk => (mkTab_get hx hi hk).symm) (fun _ _ => rfl)

set_option maxHeartbeats 8000000 in
set_option maxRecDepth 100000 in
theorem refmin_any (v : Value) (a : TA) (w : World) (h : IsTA w w.heap.size v a) (hv : a.fit5 = true) :
    Calls Try.prog 49 #[v] w (Ret fun v w' => Below w.heap.size w w' ∧ RMinRes w' w.heap.size a v) := by
  have hv' := hv
  simp only [TA.fit5, TA.head5, Bool.and_eq_true, decide_eq_true_eq] at hv'
  obtain ⟨⟨⟨⟨⟨⟨hL1, hL8⟩, hS0⟩, -⟩, -⟩, -⟩, -⟩ := hv'
  have hlang : ∀ t, meetsR a.accept (a.marks t) = a.lang t := fun t => TA.lang_marks hv t
  have hbig := fun (l : List (List Bool)) hn hR hl => TA.large_of (a := a) hv (l := l) hn hR hl
  have hsml := fun (l : List (List Bool)) hE hl => TA.not_large (a := a) hv (l := l) hE hl
  obtain ⟨L, S, acc, lv, brs⟩ := a
  dsimp only at *
  obtain ⟨L, rfl⟩ := Int.eq_ofNat_of_zero_le (show 0 ≤ L by omega)
  obtain ⟨S, rfl⟩ := Int.eq_ofNat_of_zero_le hS0
  simp only [Int.toNat_natCast] at hbig hsml
  unfold RMinRes
  dsimp only
  simp only [Int.toNat_natCast]
  obtain ⟨A1, c1, A2, c2, A3, c3, rfl, h1, h2, h3⟩ := h
  obtain ⟨w1, hw1, hb1, hB1, hk1⟩ := box_blk w #[.int .i64 (L : Int), .int .i64 (S : Int), .slice A1 acc.length c1, .slice A2 lv.length c2, .slice A3 brs.length c3] 26
  obtain ⟨w2, hw2, hb2, hB2, hk2⟩ := box_blk w1 #[.int .i64 0, .int .i64 0, .slice none 0 0, .slice none 0 0, .slice none 0 0] 26
  have hsz1 := hb1.size
  have hsz2 := hb2.size
  have hlt2 := hB2.lt
  have hb02 := hb1.trans (hb2.mono hsz1)
  have hT : IsTA w2 w2.heap.size (.agg #[.int .i64 (L : Int), .int .i64 (S : Int), .slice A1 acc.length c1, .slice A2 lv.length c2, .slice A3 brs.length c3]) ⟨(L : Int), (S : Int), acc, lv, brs⟩ :=
    IsTA.keep (B := w.heap.size) ⟨A1, c1, A2, c2, A3, c3, rfl, h1, h2, h3⟩ (fun _ hp => hb02.cell hp) (by omega)
  have hTT := hide hT
  have hvv := hide hv
  have hll := hide hlang
  have hbb := hide hbig
  have hss := hide hsml
  have hc1 := (hB1.below hb2).cell
  clear hT hv h1 h2 h3 hlang hbig hsml
  go_enter Try.func49, Try.ntmps49
  go_wp2_with fail
  refine Calls.ret (subsets_any (m := 64) hTT.out hvv.out (.inl rfl)) ?_
  rintro v w3 ⟨hb3, hres⟩
  have hB23 := hB2.below hb3
  have hc23 := hB23.cell
  have hf23 := hB23.frozen
  have hl23 := hB23.lt
  have hb03 := hb02.trans (hb3.mono (by omega))
  have hs3 := hb3.size
  rcases hres with ⟨-, rfl, l, hnd, hR, h64⟩ | ⟨l, vl, vb, va, rfl, hE, h64, -, hF⟩
  · have hLg := hide (hbb.out l hnd hR h64)
    have hbH := hide hb03
    obtain ⟨w4, hw4, hb4, hB4, hk4⟩ := box_blk w3 #[.int .i64 0, .slice none 0 0, .slice none 0 0, .slice none 0 0] 84
    obtain ⟨w5, hw5, hg5, hk5⟩ := set4t_facts hB4 (.int .i64 0) (.slice none 0 0) (.slice none 0 0) (.slice none 0 0)
    have hb35 : Below w3.heap.size w3 w5 := hb4.trans (hk5.below hb4.size fun b hb e => by omega)
    have hc4 := hB4.cell
    have hf4 := hB4.frozen
    have hl4 := hB4.lt
    have hB25 := hB23.below hb35
    have hc25 := hB25.cell
    have hf25 := hB25.frozen
    have hl25 := hB25.lt
    have hw5' := hw5
    simp only [set4t] at hw5'
    clear hnd hR hb03 hb3 hc1 hw5 hc23 hf23
    go_wp2_with fail
    obtain ⟨wF, hwF, hgF, hkF⟩ := set5_facts hB25 (.int .i64 0) (.int .i64 0) (.slice none 0 0) (.slice none 0 0) (.slice none 0 0)
    change bodyPost _ _ _ _ _ (set5 w5 w1.heap.size (.int .i64 0) (.int .i64 0) (.slice none 0 0) (.slice none 0 0) (.slice none 0 0))
    rw [hwF]
    have hcF := hgF.cell
    have hs5 := hb35.size
    exact bodyPost_ret (v := .tuple #[zeroTA, .int .i64 4]) (by simp [results, Try.results49, go_sem, hcF, zeroTA]) rfl ⟨(hbH.out.trans (hb35.mono (by omega))).trans (hkF.below (by omega) fun b hb e => by omega), .inl ⟨hLg.out, rfl⟩⟩
  · have hnl := hide (hss.out l hE (h64 rfl))
    obtain ⟨hok, hrun, hacc⟩ := hE.machine (acc := meetsR acc)
    have hOK := hide hok
    have hacH := hide hacc
    have hFL := hF.lists
    have hlen : (l.map (meetsR acc)).length ≤ 64 := by rw [List.length_map]; exact h64 rfl
    obtain ⟨gaq, caq, rfl, -⟩ := hF.acc
    obtain ⟨glq, clq, rfl, -⟩ := hF.leaf
    obtain ⟨gvq, cvq, -, -, -, -, rfl, -⟩ := hF.tab
    obtain ⟨w4, hw4, hb4, hB4, hk4⟩ := box_blk w3 #[.int .i64 0, .slice none 0 0, .slice none 0 0, .slice none 0 0] 84
    obtain ⟨w5, hw5, hg5, hk5⟩ := set4t_facts hB4 (.int .i64 (L : Int)) (.slice (some ⟨glq, 0, none⟩) L clq) (.slice (some ⟨gvq, 0, none⟩) L cvq) (.slice (some ⟨gaq, 0, none⟩) l.length caq)
    have hb35 : Below w3.heap.size w3 w5 := hb4.trans (hk5.below hb4.size fun b hb e => by omega)
    have hF5 := hide (hFL.below hb35)
    have hc4 := hB4.cell
    have hf4 := hB4.frozen
    have hl4 := hB4.lt
    have hc5 := hg5.cell
    have hB25 := hide (hB23.below hb35)
    have hbH := hide (hb03.trans (hb35.mono (by omega)))
    have hs5 := hb35.size
    have hw5' := hw5
    simp only [set4t] at hw5'
    have hL8' : L ≤ 8 := by omega
    have hL1' : 1 ≤ L := by omega
    clear hok hrun hacc hE hF hFL hb03 hb3 hc1 hc23 hf23 hw5 hg5 hk5 hb35 h64
    go_wp2_with (go_at_call 60; refine Calls.ret (canonical_any hF5.out hOK.out (by omega) hL8' hL1') ?_; rintro v6 w6 ⟨hb6, ac', lf', t', hok', hle', hcan', va', vl', vb', rfl, ho1, ho2, ho3⟩
                 obtain ⟨A5, d5, rfl⟩ := slice_of_own ho1
                 obtain ⟨A6, d6, rfl⟩ := slice_of_own ho2
                 obtain ⟨A7, d7, rfl⟩ := slice_of_own ho3
                 have hB26 := hB25.out.below hb6
                 have hc26 := hB26.cell
                 have hf26 := hB26.frozen
                 have hl26 := hB26.lt
                 have hB6H := hide hB26
                 have hb6H := hide hb6
                 have hok6 := hide hok'
                 have hcan6 := hide hcan'
                 have ho1H := hide ho1
                 have ho2H := hide ho2
                 have ho3H := hide ho3
                 clear hB26 hb6 hok' hcan' ho1 ho2 ho3 hc4 hf4 hc5)
    obtain ⟨wF, hwF, hgF, hkF⟩ := set5_facts hB6H.out (.int .i64 (L : Int)) (.int .i64 (ac'.length : Int)) (.slice A5 (accIdx ac').length d5) (.slice A6 (plLv lf').length d6) (.slice A7 (plBr L ac'.length t').length d7)
    change bodyPost _ _ _ _ _ (set5 w6 w1.heap.size (.int .i64 (L : Int)) (.int .i64 (ac'.length : Int)) (.slice A5 (accIdx ac').length d5) (.slice A6 (plLv lf').length d6) (.slice A7 (plBr L ac'.length t').length d7))
    rw [hwF]
    have hcF := hgF.cell
    have hs6 := hb6H.out.size
    have hne : ∀ e, e ≠ 26 → ∀ g cs, g = w1.heap.size → ¬ Blk w6 g e cs := fun e he g cs eg hb => by subst eg; exact hB6H.out.ne_ hb (fun h => he h.symm) rfl
    have hc := hcan6.out
    refine bodyPost_ret (v := .tuple #[.agg #[.int .i64 (L : Int), .int .i64 (ac'.length : Int), .slice A5 (accIdx ac').length d5, .slice A6 (plLv lf').length d6, .slice A7 (plBr L ac'.length t').length d7], .int .i64 0]) (by simp [results, Try.results49, go_sem, hcF]) rfl
      ⟨(hbH.out.trans (hb6H.out.mono (by omega))).trans (hkF.below (by omega) fun b hb e => by omega), .inr ⟨hnl.out, ac', lf', t', _, rfl, hok6.out, by omega, ?_, _, _, _, rfl, ?_, ?_, ?_⟩⟩
    · have he : ∀ tr : Tr, tr.ok L → macc (l.map (meetsR acc)) (runT (mleaf (mkLf L (tabLf (leafR S lv) l))) (mbr (mkTab L l.length (tabBr (brR S brs) l))) tr) = TA.lang ⟨(L : Int), (S : Int), acc, lv, brs⟩ tr := fun tr htr => (hacH.out tr htr).trans (hll.out tr)
      exact ⟨hc.isM, fun tr htr => (hc.lang tr htr).trans (he tr htr), fun tr u htr hu hq => hc.sep tr u htr hu fun r => EqT.congr (fun tr htr => (he tr htr).symm) r tr u htr hu (hq r), hc.ord⟩
    · exact own_weak (own_ty hkF ho1H.out (hne 3 (by decide))) (by omega)
    · exact own_weak (own_ty hkF ho2H.out (hne 36 (by decide))) (by omega)
    · exact own_weak (own_ty hkF ho3H.out (hne 59 (by decide))) (by omega)

set_option maxHeartbeats 8000000 in
set_option maxRecDepth 100000 in
theorem refMinimal_any (v : Value) (a : TA) (w : World) (h : IsTA w w.heap.size v a) :
    Calls Try.prog 22 #[v] w (Ret fun v w' => Below w.heap.size w w' ∧ MinimalRes w' w.heap.size a v) := by
  obtain ⟨A1, c1, A2, c2, A3, c3, rfl, h1, h2, h3⟩ := h
  obtain ⟨w1, hw1, hb1, hB1, hk1⟩ := box_blk w #[.int .i64 a.letters, .int .i64 a.states, .slice A1 a.accept.length c1, .slice A2 a.leaves.length c2, .slice A3 a.branches.length c3] 26
  obtain ⟨w2, hw2, hb2, hB2, hk2⟩ := box_blk w1 #[.int .i64 0, .int .i64 0, .slice none 0 0, .slice none 0 0, .slice none 0 0] 26
  have hsz1 := hb1.size
  have hsz2 := hb2.size
  have hB12 := hB1.kept hk2 id
  have hcb := hB12.cell
  have hb02 : Below w.heap.size w w2 := hb1.trans (hb2.mono hsz1)
  have hT : IsTA w2 w2.heap.size (.agg #[.int .i64 a.letters, .int .i64 a.states, .slice A1 a.accept.length c1, .slice A2 a.leaves.length c2, .slice A3 a.branches.length c3]) a :=
    IsTA.keep ⟨A1, c1, A2, c2, A3, c3, rfl, h1, h2, h3⟩ (fun _ hp => hb02.cell hp) (by omega)
  have hTT := hide hT
  clear hT h1 h2 h3
  go_enter Try.func22, Try.ntmps22
  go_wp2_with fail
  refine (refValidate_any _ a w2 hTT.out).mono ?_
  rintro e w3 ⟨rfl, hb3⟩
  have hB13 := hB12.below hb3
  have hB23 := hB2.below hb3
  have hcb3 := hB13.cell
  have hc23 := hB23.cell
  have hf23 := hB23.frozen
  have hsz3 := hb3.size
  have hlt3 := hB23.lt
  have hb03 : Below w.heap.size w w3 := hb02.trans (hb3.mono (by omega))
  cases hv : a.valid with
  | false =>
    have hvv := hide hv
    clear hv
    have he : errno false = 1 := rfl
    rw [he]
    go_wp2_with fail
    obtain ⟨wF, hwF, hgF, hkF⟩ := set5_facts hB23 (.int .i64 0) (.int .i64 0) (.slice none 0 0) (.slice none 0 0) (.slice none 0 0)
    change bodyPost _ _ _ _ _ (set5 w3 w1.heap.size (.int .i64 0) (.int .i64 0) (.slice none 0 0) (.slice none 0 0) (.slice none 0 0))
    rw [hwF]
    have hcF := hgF.cell
    exact bodyPost_ret (v := .tuple #[zeroTA, .int .i64 1]) (by simp [results, Try.results22, go_sem, hcF, zeroTA]) rfl ⟨hb03.trans (hkF.below (by omega) (fun b hb e => by omega)), .inl ⟨hvv.out, rfl⟩⟩
  | true =>
    have hvv := hide hv
    clear hv
    have he : errno true = 0 := rfl
    rw [he]
    have hT3 : IsTA w3 w3.heap.size (.agg #[.int .i64 a.letters, .int .i64 a.states, .slice A1 a.accept.length c1, .slice A2 a.leaves.length c2, .slice A3 a.branches.length c3]) a := hTT.out.keep (fun _ hp => hb3.cell hp) hsz3
    have hT33 := hide hT3
    clear hT3 he
    go_wp2_with fail
    refine Calls.ret (refmin_any _ a w3 hT33.out (TA.fit5_of hvv.out)) ?_
    rintro v w4 ⟨hb4, hres⟩
    have hB24 := hB23.below hb4
    have hc24 := hB24.cell
    have hf24 := hB24.frozen
    have hsz4 := hb4.size
    have hlt4 := hB24.lt
    have hb04 : Below w.heap.size w w4 := hb03.trans (hb4.mono (by omega))
    rcases hres with ⟨hlg, rfl⟩ | ⟨hnl, ac, lf, t, va, rfl, hok, hle, hcan, vac, vlv, vbr, rfl, ho1, ho2, ho3⟩
    · have hL := hide hlg
      clear hlg
      unfold zeroTA
      go_wp2_with fail
      obtain ⟨wF, hwF, hgF, hkF⟩ := set5_facts hB24 (.int .i64 0) (.int .i64 0) (.slice none 0 0) (.slice none 0 0) (.slice none 0 0)
      change bodyPost _ _ _ _ _ (set5 w4 w1.heap.size (.int .i64 0) (.int .i64 0) (.slice none 0 0) (.slice none 0 0) (.slice none 0 0))
      rw [hwF]
      have hcF := hgF.cell
      exact bodyPost_ret (v := .tuple #[zeroTA, .int .i64 4]) (by simp [results, Try.results22, go_sem, hcF, zeroTA]) rfl ⟨hb04.trans (hkF.below (by omega) (fun b hb e => by omega)), .inr (.inl ⟨hvv.out, hL.out, rfl⟩)⟩
    · obtain ⟨A5, d5, rfl⟩ := slice_of_own ho1
      obtain ⟨A6, d6, rfl⟩ := slice_of_own ho2
      obtain ⟨A7, d7, rfl⟩ := slice_of_own ho3
      have hOO := hide hok
      have hNL := hide hnl
      have hCC := hide hcan
      have ho1H := hide ho1
      have ho2H := hide ho2
      have ho3H := hide ho3
      clear hok hnl hcan ho1 ho2 ho3 hc23 hf23 hcb3 hcb
      generalize hLe : a.letters.toNat = L at *
      have hLh := hide hLe
      clear hLe
      go_wp2_with fail
      obtain ⟨wF, hwF, hgF, hkF⟩ := set5_facts hB24 (.int .i64 (L : Int)) (.int .i64 (ac.length : Int)) (.slice A5 (accIdx ac).length d5) (.slice A6 (plLv lf).length d6) (.slice A7 (plBr L ac.length t).length d7)
      change bodyPost _ _ _ _ _ (set5 w4 w1.heap.size (.int .i64 (L : Int)) (.int .i64 (ac.length : Int)) (.slice A5 (accIdx ac).length d5) (.slice A6 (plLv lf).length d6) (.slice A7 (plBr L ac.length t).length d7))
      rw [hwF]
      have hcF := hgF.cell
      have hLx := hLh.out
      subst hLx
      have hne : ∀ e, e ≠ 26 → ∀ g cs, g = w1.heap.size → ¬ Blk w4 g e cs := fun e he g cs eg hb => by subst eg; exact hB24.ne_ hb (fun h => he h.symm) rfl
      refine bodyPost_ret (v := .tuple #[.agg #[.int .i64 (a.letters.toNat : Int), .int .i64 (ac.length : Int), .slice A5 (accIdx ac).length d5, .slice A6 (plLv lf).length d6, .slice A7 (plBr a.letters.toNat ac.length t).length d7], .int .i64 0]) (by simp [results, Try.results22, go_sem, hcF]) rfl ⟨hb04.trans (hkF.below (by omega) (fun b hb e => by omega)), .inr (.inr ⟨hvv.out, hNL.out, ac, lf, t, _, rfl, hOO.out, hle, hCC.out, _, _, _, rfl, ?_, ?_, ?_⟩)⟩
      · exact own_weak (own_ty hkF ho1H.out (hne 3 (by decide))) (by omega)
      · exact own_weak (own_ty hkF ho2H.out (hne 36 (by decide))) (by omega)
      · exact own_weak (own_ty hkF ho3H.out (hne 59 (by decide))) (by omega)
end Go.Proofs.Ytnimlcbgeiajiaa

namespace Go.Proofs.Ytnimlcbgeiajiaa
open Go.RowKit

/-- The error and the canonical automaton of a language. -/
def RelG (a : TA) (Λ : Tr → Bool) (e : Int) (b : TA) : Prop :=
  (a.valid = false ∧ e = 1 ∧ b = zTA) ∨ (a.valid = true ∧ a.Large ∧ e = 4 ∧ b = zTA) ∨
  (a.valid = true ∧ ¬ a.Large ∧ e = 0 ∧ ∃ ac lf t, MOK a.letters.toNat ac lf t ∧ ac.length ≤ 64 ∧ Canon a.letters.toNat ac.length (mleaf lf) (mbr t) (macc ac) Λ ∧ b = plainA a.letters.toNat ac lf t)
theorem RelG.unique {a b b' : TA} {Λ : Tr → Bool} {e e' : Int} (h : RelG a Λ e b) (h' : RelG a Λ e' b') : e = e' ∧ b = b' := by
  rcases h with ⟨h1, rfl, rfl⟩ | ⟨h1, h2, rfl, rfl⟩ | ⟨h1, h2, rfl, ac, lf, t, h3, h4, h5, rfl⟩ <;>
  rcases h' with ⟨g1, rfl, rfl⟩ | ⟨g1, g2, rfl, rfl⟩ | ⟨g1, g2, rfl, ac', lf', t', g3, g4, g5, rfl⟩ <;>
  first
  | exact ⟨rfl, rfl⟩
  | exact absurd (h1.symm.trans g1) (by decide)
  | exact (h2 g2).elim
  | exact (g2 h2).elim
  | exact ⟨rfl, (plain_same h3 g3 h5 g5 (fun _ _ => rfl)).symm⟩
theorem Canon.congr {L n : Nat} {leaf : Nat → Nat} {br : Nat → Nat → Nat → Nat} {acc : Nat → Bool} {Λ Λ' : Tr → Bool} (h : Canon L n leaf br acc Λ) (hΛ : ∀ t : Tr, t.ok L → Λ t = Λ' t) : Canon L n leaf br acc Λ' :=
  ⟨h.isM, fun tr htr => (h.lang tr htr).trans (hΛ tr htr), fun tr u htr hu hq => h.sep tr u htr hu fun r => EqT.congr (fun tr htr => (hΛ tr htr).symm) r tr u htr hu (hq r), h.ord⟩
theorem EqT.not {L : Nat} {Λ : Tr → Bool} (r : Nat) : ∀ t u : Tr, EqT L (fun t => !Λ t) r t u → EqT L Λ r t u := by
  induction r with
  | zero =>
    intro t u h
    have h' : (!Λ t) = !Λ u := h
    show Λ t = Λ u
    cases h1 : Λ t <;> cases h2 : Λ u <;> simp_all
  | succ r ih => exact fun t u h => ⟨ih t u h.1, fun x hx c hc => ⟨ih _ _ (h.2 x hx c hc).1, ih _ _ (h.2 x hx c hc).2⟩⟩
theorem Canon.compl {L n : Nat} {leaf : Nat → Nat} {br : Nat → Nat → Nat → Nat} {acc acc' : Nat → Bool} {Λ : Tr → Bool} (h : Canon L n leaf br acc Λ) (ha : ∀ q, q < n → acc' q = !acc q) : Canon L n leaf br acc' (fun t => !Λ t) :=
  ⟨h.isM, fun tr htr => by rw [ha _ (h.isM.run_lt tr htr), h.lang tr htr], fun tr u htr hu hq => h.sep tr u htr hu fun r => EqT.not r tr u (hq r), h.ord⟩
theorem macc_not {ac ac' : List Bool} (hl : ac'.length = ac.length) (h : ∀ q, q < ac.length → macc ac' q = !macc ac q) : ac' = ac.map (fun b => !b) := by
  apply List.ext_getElem?
  intro q
  by_cases hq : q < ac.length
  · obtain ⟨b, hb⟩ := get_lt hq
    obtain ⟨b', hb'⟩ := get_lt (l := ac') (i := q) (by omega)
    have := h q hq
    have e1 : macc ac q = b := getD_some hb
    have e2 : macc ac' q = b' := getD_some hb'
    rw [e1, e2] at this
    rw [hb', List.getElem?_map, hb, this]
    rfl
  · rw [List.getElem?_eq_none (by omega), List.getElem?_eq_none (by simp; omega)]
theorem mok_other {L : Nat} {ac ac' : List Bool} {lf : List Nat} {t : List (List (List Nat))} (h : MOK L ac lf t) (hl : ac'.length = ac.length) : MOK L ac' lf t :=
  ⟨h.lfl, by rw [hl]; exact h.tl, fun i r hr => ⟨by rw [hl]; exact (h.rl i r hr).1, (h.rl i r hr).2⟩, by rw [hl]; exact h.isM⟩

/-- What was built of the call's own reads as an automaton. -/
theorem OwnTA.own {w : World} {base L : Nat} {va : Value} {ac : List Bool} {lf : List Nat} {t : List (List (List Nat))} (h : OwnTA w base va L ac.length (accIdx ac) (plLv lf) (plBr L ac.length t)) (hok : MOK L ac lf t) (hL : L ≤ 8) : TAown w base va (plainA L ac lf t) := by
  obtain ⟨A1, c1, A2, c2, A3, c3, hv, s1, s2, s3⟩ := own_ta h
  obtain ⟨v1, v2, v3, hv', -, o2, -⟩ := h
  rw [hv] at hv'
  injection hv' with hv'
  simp only [Array.mk.injEq, List.cons.injEq, and_true] at hv'
  obtain ⟨-, -, -, e2, -⟩ := hv'
  refine ⟨A1, c1, A2, c2, A3, c3, _, hv, s1, s2, s3, by rw [← e2] at o2; exact o2, ?_⟩
  show (plLv lf).length ≤ 8
  simp only [plLv, List.length_map, List.length_range, hok.lfl]
  exact hL
theorem TAown.weak {w : World} {base base' : Nat} {v : Value} {b : TA} (h : TAown w base v b) (hb : base' ≤ base) : TAown w base' v b := by
  obtain ⟨A1, c1, A2, c2, A3, c3, xs, h1, h2, h3, h4, h5, h6⟩ := h
  exact ⟨A1, c1, A2, c2, A3, c3, xs, h1, h2, h3, h4, own_weak h5 hb, h6⟩
theorem TAown.zero (w : World) (base : Nat) : TAown w base zeroTA zTA := ⟨none, 0, none, 0, none, 0, [], rfl, Sl.nil rfl, Sl.nil rfl, Sl.nil rfl, own_nil, by simp [zTA]⟩
/-- A change of one block of structs. -/
theorem TAown.keep {w w' : World} {X : Nat → Prop} {base : Nat} {v : Value} {b : TA} {L : Nat} {ac : List Bool} {lf : List Nat} {t : List (List (List Nat))} (h : OwnTA w base v L ac.length (accIdx ac) (plLv lf) (plBr L ac.length t)) (hk : Kept w w' X) (hX : ∀ g e cs, X g → e ≠ 26 → ¬ Blk w g e cs) (hb : b = plainA L ac lf t) (hok : MOK L ac lf t) (hL : L ≤ 8) : TAown w' base v b := by
  subst hb
  obtain ⟨va, vl, vb, rfl, h1, h2, h3⟩ := h
  exact OwnTA.own ⟨va, vl, vb, rfl, own_ty hk h1 (fun g cs hx => hX g 3 cs hx (by decide)), own_ty hk h2 (fun g cs hx => hX g 36 cs hx (by decide)), own_ty hk h3 (fun g cs hx => hX g 59 cs hx (by decide))⟩ hok hL
/-- A pair of an automaton of the call's own and an error. -/
def ResG (w' : World) (base : Nat) (a : TA) (Λ : Tr → Bool) (v : Value) : Prop := ∃ e b vm, v = .tuple #[vm, .int .i64 e] ∧ RelG a Λ e b ∧ TAown w' base vm b
end Go.Proofs.Ytnimlcbgeiajiaa

namespace Go.Proofs.Ytnimlcbgeiajiaa
open Go.RowKit

theorem TblW.congr {w : World} {base L n gl ga gv cv : Nat} {gi ci : Nat → Nat} {gj : Nat → Nat → Nat} {lf lf' : Nat → Nat} {br br' : Nat → Nat → Nat → Nat} {ac ac' : Nat → Bool} (h : TblW w base L n gl ga gv cv gi ci gj lf br ac)
    (h1 : ∀ x, x < L → lf x = lf' x) (h2 : ∀ x i k, x < L → i < n → k < n → br x i k = br' x i k) (h3 : ∀ q, q < n → ac q = ac' q) : TblW w base L n gl ga gv cv gi ci gj lf' br' ac' :=
  ⟨Eq.mp (congrArg (Blk w gl 3) (rangeC_congr fun x hx => by rw [h1 x hx])) h.leaf, Eq.mp (congrArg (Blk w ga 4) (rangeC_congr fun q hq => by rw [h3 q hq])) h.acc, h.top, h.topc, h.mid,
    fun x hx i hi => Eq.mp (congrArg (Blk w (gj x i) 3) (rangeC_congr fun k hk => by rw [h2 x i k hx hi hk])) (h.row x hx i hi), h.bl, h.ba, h.bv, h.bi, h.bj, h.nl, h.nj⟩
theorem take_new {D : Type} {l : List D} {k : Nat} {x y : D} (hx : l[k]? = some x) (hy : y ∈ l.take (k + 1)) : y ∈ l.take k ∨ y = x := by
  rw [take_snoc hx] at hy
  rcases List.mem_append.1 hy with h | h
  · exact .inl h
  · exact .inr (List.mem_singleton.1 h)

/-- What table reads. -/
structure TabX (w : World) (g1 L n : Nat) (A1 A2 A3 : Option Addr) (c1 c2 c3 : Nat) (acc : List Int) (lv : List Leaf) (brs : List Branch) : Prop where
  b : Blk w g1 26 #[.int .i64 (L : Int), .int .i64 (n : Int), .slice A1 acc.length c1, .slice A2 lv.length c2, .slice A3 brs.length c3]
  s1 : Sl w w.heap.size 1 encI A1 acc
  s2 : Sl w w.heap.size 2 encL A2 lv
  s3 : Sl w w.heap.size 4 encBr A3 brs
theorem TabX.at {w w' : World} {g1 L n : Nat} {A1 A2 A3 : Option Addr} {c1 c2 c3 : Nat} {acc : List Int} {lv : List Leaf} {brs : List Branch} (h : TabX w g1 L n A1 A2 A3 c1 c2 c3 acc lv brs) (hb : Below w.heap.size w w') : TabX w' g1 L n A1 A2 A3 c1 c2 c3 acc lv brs :=
  ⟨h.b.below hb, (h.s1.below hb).mono hb.size, (h.s2.below hb).mono hb.size, (h.s3.below hb).mono hb.size⟩

set_option maxHeartbeats 8000000 in
set_option maxRecDepth 100000 in
theorem tab_leaves {wB w : World} {g1 g13 L n gl ga gv cv : Nat} {gi ci : Nat → Nat} {gj : Nat → Nat → Nat} {A1 A2 A3 : Option Addr} {c1 c2 c3 : Nat} {acc : List Int} {lv : List Leaf} {brs : List Branch} (hX : TabX wB g1 L n A1 A2 A3 c1 c2 c3 acc lv brs)
    {F : Nat → Nat} (hF : ∀ e ∈ lv, ∃ x, x < L ∧ e = ⟨(x : Int), (F x : Int)⟩)
    {lf : Nat → Nat} {br : Nat → Nat → Nat → Nat} {ac : Nat → Bool} (hT : SubT wB w L n g13 gl ga gv cv gi ci gj lf br ac)
    {u0 u2 u5 u6 u7 u8 u9 u10 u11 u12 u13 u14 u15 u16 u17 u18 u19 u20 u21 u22 u23 u24 u25 u26 u27 u28 u29 u30 u31 u32 u33 u34 u35 u36 u37 u38 u39 u40 u41 u42 u43 u44 u45 u46 u47 u48 u49 u50 u51 u52 u53 u54 u55 u56 u57 u58 u59 u60 u61 u62 u63 u64 u65 u66 u67 u68 u69 u70 u71 u72 u73 u74 u75 u76 u77 : Value}
    {Q : Exit → Act → World → Prop} (hN : Reg.NoQ Q)
    (hQ : ∀ (x4 x13 x14 x15 x16 x17 x18 x19 x20 x21 x22 x23 x24 x25 x26 x27 x28 x29 x30 x31 x32 x33 x34 : Value) (w' : World) (lf' : Nat → Nat), SubT wB w' L n g13 gl ga gv cv gi ci gj lf' br ac → (∀ x, x < L → (⟨(x : Int), (F x : Int)⟩ : Leaf) ∈ lv → lf' x = F x) → Q (.exit 0) ⟨List.toArray (u0 :: (.pointer (some ⟨g1, 0, none⟩)) :: u2 :: (.pointer (some ⟨g13, 0, none⟩)) :: x4 :: u5 :: u6 :: u7 :: u8 :: u9 :: u10 :: u11 :: u12 :: x13 :: x14 :: x15 :: x16 :: x17 :: x18 :: x19 :: x20 :: x21 :: x22 :: x23 :: x24 :: x25 :: x26 :: x27 :: x28 :: x29 :: 
      x30 :: x31 :: x32 :: x33 :: x34 :: u35 :: u36 :: u37 :: u38 :: u39 :: u40 :: u41 :: u42 :: u43 :: u44 :: u45 :: u46 :: u47 :: u48 :: u49 :: u50 :: u51 :: u52 :: u53 :: u54 :: u55 :: u56 :: u57 :: u58 :: u59 :: u60 :: u61 :: u62 :: u63 :: u64 :: u65 :: u66 :: 
      u67 :: u68 :: u69 :: u70 :: u71 :: u72 :: u73 :: u74 :: u75 :: u76 :: u77 :: []), []⟩ w') :
    (Code.loop (loopBody Try.f59 0)).wp Try.prog Q ⟨List.toArray (u0 :: (.pointer (some ⟨g1, 0, none⟩)) :: u2 :: (.pointer (some ⟨g13, 0, none⟩)) :: (.int .i64 0) :: u5 :: u6 :: u7 :: u8 :: u9 :: u10 :: u11 :: u12 :: u13 :: u14 :: u15 :: u16 :: u17 :: u18 :: u19 :: u20 :: u21 :: u22 :: u23 :: u24 :: u25 :: u26 :: u27 :: u28 :: 
      u29 :: u30 :: u31 :: u32 :: u33 :: u34 :: u35 :: u36 :: u37 :: u38 :: u39 :: u40 :: u41 :: u42 :: u43 :: u44 :: u45 :: u46 :: u47 :: u48 :: u49 :: u50 :: u51 :: u52 :: u53 :: u54 :: u55 :: u56 :: u57 :: u58 :: u59 :: u60 :: u61 :: u62 :: u63 :: u64 :: u65 :: 
      u66 :: u67 :: u68 :: u69 :: u70 :: u71 :: u72 :: u73 :: u74 :: u75 :: u76 :: u77 :: []), []⟩ w := by
  conv => arg 2; arg 1; whnf
  have hFH := hide hF
  have hn2 := hX.s2.1
  clear hF
  go_loopw [4] (fun kk wr => ∃ (k : Nat) (lf' : Nat → Nat), kk = .int .i64 (k : Int) ∧ k ≤ lv.length ∧ SubT wB wr L n g13 gl ga gv cv gi ci gj lf' br ac ∧ Hid (∀ x, x < L → (⟨(x : Int), (F x : Int)⟩ : Leaf) ∈ lv.take k → lf' x = F x)) (fun kk _ => lv.length - (intOf kk).toNat)
  case atStart => exact ⟨0, lf, rfl, Nat.zero_le _, hT, fun x _ h => by simp at h⟩
  case round =>
    obtain ⟨k, lf', rfl, hk, hT', hI⟩ := hrel
    have hXr := hX.at hT'.below
    have hc1 := hXr.b.cell
    by_cases hlt : k < lv.length
    · obtain ⟨b, off, e, rfl, hbk, he, hc⟩ := hXr.s2.at hlt
      obtain ⟨x, hx, hxe⟩ := hFH.out e (List.mem_of_getElem? he)
      subst hxe
      have d0 := hc 0 (by omega)
      have d1 := hc 1 (by omega)
      simp only [Nat.add_zero, encL] at d0 d1
      have hc13 := hT'.b.cell
      have hcl : wr.cell? ⟨gl, x, none⟩ = some (encN (lf' x)) := by rw [hT'.t.leaf.cell, rangeC_get _ hx]
      simp only [encN] at hcl
      have hfl := hT'.t.leaf.frozen x
      have hll := hT'.t.leaf.lt
      have hst := hide (hT'.drew.setLeaf x (F x))
      have heH := hide he
      clear hc he hT' hXr
      go_wp2_with fail
      refine Reg.region_plain [0, 1, 0, 4, 0, 28, 60, 124, 0, 256, 0, 1792, 3840, 7936, 16383, 32767] (by kernel_rfl) (by repeat (first | exact hN | refine Reg.NoQ.then ?_ | refine Reg.NoQ.inBlock ?_)) ?_
      go_wp2_with fail
      refine ⟨⟨k + 1, _, by go_num, by omega, hst.out, fun x' hx' hm => ?_⟩, by simp [intOf]; omega⟩
      unfold up1
      split
      · rename_i e; rw [e]
      · rename_i hne
        rcases take_new heH.out hm with hm | hm
        · exact hI.out x' hx' hm
        · injection hm with h1 h2
          exact absurd (by omega) hne
    · have hTH := hide hT'
      have e : k = lv.length := by omega
      have hI2 := hI.out
      rw [e, List.take_length] at hI2
      have hI3 := hide hI2
      clear e hT' hI2
      go_wp2_with fail
      exact hQ _ _ _ _ _ _ _ _ _ _ _ _ _ _ _ _ _ _ _ _ _ _ _ wr lf' hTH.out hI3.out

set_option maxHeartbeats 8000000 in
set_option maxRecDepth 100000 in
theorem tab_branches {wB w : World} {g1 g13 L n gl ga gv cv : Nat} {gi ci : Nat → Nat} {gj : Nat → Nat → Nat} {A1 A2 A3 : Option Addr} {c1 c2 c3 : Nat} {acc : List Int} {lv : List Leaf} {brs : List Branch} (hX : TabX wB g1 L n A1 A2 A3 c1 c2 c3 acc lv brs)
    {F : Nat → Nat → Nat → Nat} (hF : ∀ e ∈ brs, ∃ x i j, x < L ∧ i < n ∧ j < n ∧ e = ⟨(x : Int), (i : Int), (j : Int), (F x i j : Int)⟩)
    {lf : Nat → Nat} {br : Nat → Nat → Nat → Nat} {ac : Nat → Bool} (hT : SubT wB w L n g13 gl ga gv cv gi ci gj lf br ac)
    {u0 u2 u4 u6 u7 u8 u9 u10 u11 u12 u13 u14 u15 u16 u17 u18 u19 u20 u21 u22 u23 u24 u25 u26 u27 u28 u29 u30 u31 u32 u33 u34 u35 u36 u37 u38 u39 u40 u41 u42 u43 u44 u45 u46 u47 u48 u49 u50 u51 u52 u53 u54 u55 u56 u57 u58 u59 u60 u61 u62 u63 u64 u65 u66 u67 u68 u69 u70 u71 u72 u73 u74 u75 u76 u77 : Value}
    {Q : Exit → Act → World → Prop} (hN : Reg.NoQ Q)
    (hQ : ∀ (x5 x6 x35 x36 x37 x38 x39 x40 x41 x42 x43 x44 x45 x46 x47 x48 x49 x50 x51 x52 x53 x54 x55 x56 x57 x58 x59 x60 x61 : Value) (w' : World) (br' : Nat → Nat → Nat → Nat), SubT wB w' L n g13 gl ga gv cv gi ci gj lf br' ac → (∀ x i j, x < L → i < n → j < n → (⟨(x : Int), (i : Int), (j : Int), (F x i j : Int)⟩ : Branch) ∈ brs → br' x i j = F x i j) → Q (.exit 2) ⟨List.toArray (u0 :: (.pointer (some ⟨g1, 0, none⟩)) :: u2 :: (.pointer (some ⟨g13, 0, none⟩)) :: u4 :: x5 :: x6 :: u7 :: u8 :: u9 :: u10 :: u11 :: u12 :: u13 :: u14 :: u15 :: u16 :: u17 :: u18 :: u19 :: u20 :: u21 :: u22 :: u23 :: u24 :: u25 :: u26 :: u27 :: u28 :: u29 :: 
      u30 :: u31 :: u32 :: u33 :: u34 :: x35 :: x36 :: x37 :: x38 :: x39 :: x40 :: x41 :: x42 :: x43 :: x44 :: x45 :: x46 :: x47 :: x48 :: x49 :: x50 :: x51 :: x52 :: x53 :: x54 :: x55 :: x56 :: x57 :: x58 :: x59 :: x60 :: x61 :: u62 :: u63 :: u64 :: u65 :: u66 :: 
      u67 :: u68 :: u69 :: u70 :: u71 :: u72 :: u73 :: u74 :: u75 :: u76 :: u77 :: []), []⟩ w') :
    (Code.loop (loopBody Try.f59 1)).wp Try.prog Q ⟨List.toArray (u0 :: (.pointer (some ⟨g1, 0, none⟩)) :: u2 :: (.pointer (some ⟨g13, 0, none⟩)) :: u4 :: (.int .i64 0) :: u6 :: u7 :: u8 :: u9 :: u10 :: u11 :: u12 :: u13 :: u14 :: u15 :: u16 :: u17 :: u18 :: u19 :: u20 :: u21 :: u22 :: u23 :: u24 :: u25 :: u26 :: u27 :: u28 :: 
      u29 :: u30 :: u31 :: u32 :: u33 :: u34 :: u35 :: u36 :: u37 :: u38 :: u39 :: u40 :: u41 :: u42 :: u43 :: u44 :: u45 :: u46 :: u47 :: u48 :: u49 :: u50 :: u51 :: u52 :: u53 :: u54 :: u55 :: u56 :: u57 :: u58 :: u59 :: u60 :: u61 :: u62 :: u63 :: u64 :: u65 :: 
      u66 :: u67 :: u68 :: u69 :: u70 :: u71 :: u72 :: u73 :: u74 :: u75 :: u76 :: u77 :: []), []⟩ w := by
  conv => arg 2; arg 1; whnf
  have hFH := hide hF
  have hn3 := hX.s3.1
  clear hF
  go_loopw [5] (fun kk wr => ∃ (k : Nat) (br' : Nat → Nat → Nat → Nat), kk = .int .i64 (k : Int) ∧ k ≤ brs.length ∧ SubT wB wr L n g13 gl ga gv cv gi ci gj lf br' ac ∧
    Hid (∀ x i j, x < L → i < n → j < n → (⟨(x : Int), (i : Int), (j : Int), (F x i j : Int)⟩ : Branch) ∈ brs.take k → br' x i j = F x i j)) (fun kk _ => brs.length - (intOf kk).toNat)
  case atStart => exact ⟨0, br, rfl, Nat.zero_le _, hT, fun x i j _ _ _ h => by simp at h⟩
  case round =>
    obtain ⟨k, br', rfl, hk, hT', hI⟩ := hrel
    have hXr := hX.at hT'.below
    have hc1 := hXr.b.cell
    by_cases hlt : k < brs.length
    · obtain ⟨b, off, e, rfl, hbk, he, hc⟩ := hXr.s3.at hlt
      obtain ⟨x, i, j, hx, hi, hj, hxe⟩ := hFH.out e (List.mem_of_getElem? he)
      subst hxe
      have d0 := hc 0 (by omega)
      have d1 := hc 1 (by omega)
      have d2 := hc 2 (by omega)
      have d3 := hc 3 (by omega)
      simp only [Nat.add_zero, encBr] at d0 d1 d2 d3
      obtain ⟨w4, hw4, hb4, hB4, hk4⟩ := box_blk wr #[.int .i64 (x : Int), .int .i64 (i : Int), .int .i64 (j : Int), .int .i64 (F x i j : Int)] 59
      have hT4 := hT'.call hb4
      have hc6 := hB4.cell
      have hc13 := hT4.b.cell
      have htc := hT4.t.topc x hx
      have hmc := (hT4.t.mid x hx).2 i hi
      have hcr : w4.cell? ⟨gj x i, j, none⟩ = some (encN (br' x i j)) := by rw [(hT4.t.row x hx i hi).cell, rangeC_get _ hj]
      simp only [encN] at hcr
      have hfr := (hT4.t.row x hx i hi).frozen j
      have hlr := (hT4.t.row x hx i hi).lt
      have hst := hide (hT4.drew.setBr hx hi j (F x i j))
      have heH := hide he
      clear hc he hT' hXr hT4
      go_wp2_with fail
      refine Reg.region_plain [0, 1, 0, 4, 15, 31, 0, 64, 255, 511, 0, 1024, 0, 4096, 16383, 32767] (by kernel_rfl) (by repeat (first | exact hN | refine Reg.NoQ.then ?_ | refine Reg.NoQ.inBlock ?_)) ?_
      go_wp2_with fail
      refine ⟨⟨k + 1, _, by go_num, by omega, hst.out, fun x' i' j' hx' hi' hj' hm => ?_⟩, by simp [intOf]; omega⟩
      unfold up3
      split
      · rename_i e; obtain ⟨rfl, rfl, rfl⟩ := e; rfl
      · rename_i hne
        rcases take_new heH.out hm with hm | hm
        · exact hI.out x' i' j' hx' hi' hj' hm
        · injection hm with h1 h2 h3 h4
          exact absurd ⟨by omega, by omega, by omega⟩ hne
    · have hTH := hide hT'
      have e : k = brs.length := by omega
      have hI2 := hI.out
      rw [e, List.take_length] at hI2
      have hI3 := hide hI2
      clear e hT' hI2
      go_wp2_with fail
      exact hQ _ _ _ _ _ _ _ _ _ _ _ _ _ _ _ _ _ _ _ _ _ _ _ _ _ _ _ _ _ wr br' hTH.out hI3.out

set_option maxHeartbeats 8000000 in
set_option maxRecDepth 100000 in
theorem tab_acc {wB w : World} {g1 g13 L n gl ga gv cv : Nat} {gi ci : Nat → Nat} {gj : Nat → Nat → Nat} {A1 A2 A3 : Option Addr} {c1 c2 c3 : Nat} {al : List Nat} {lv : List Leaf} {brs : List Branch} (hX : TabX wB g1 L n A1 A2 A3 c1 c2 c3 (al.map fun (i : Nat) => (i : Int)) lv brs)
    (hA : ∀ q ∈ al, q < n)
    {lf : Nat → Nat} {br : Nat → Nat → Nat → Nat} (hT : SubT wB w L n g13 gl ga gv cv gi ci gj lf br (fun _ => false))
    {u0 u2 u4 u5 u6 u8 u9 u10 u11 u12 u13 u14 u15 u16 u17 u18 u19 u20 u21 u22 u23 u24 u25 u26 u27 u28 u29 u30 u31 u32 u33 u34 u35 u36 u37 u38 u39 u40 u41 u42 u43 u44 u45 u46 u47 u48 u49 u50 u51 u52 u53 u54 u55 u56 u57 u58 u59 u60 u61 u62 u63 u64 u65 u66 u67 u68 u69 u70 u71 u72 u73 u74 u75 u76 u77 : Value}
    {Q : Exit → Act → World → Prop} (hN : Reg.NoQ Q)
    (hQ : ∀ (x7 x62 x63 x64 x65 x66 x67 x68 x69 x70 x71 x72 x73 x74 x75 x76 : Value) (w' : World) (ac' : Nat → Bool), SubT wB w' L n g13 gl ga gv cv gi ci gj lf br ac' → (∀ q, q < n → (ac' q = true ↔ q ∈ al)) → Q (.exit 4) ⟨List.toArray (u0 :: (.pointer (some ⟨g1, 0, none⟩)) :: u2 :: (.pointer (some ⟨g13, 0, none⟩)) :: u4 :: u5 :: u6 :: x7 :: u8 :: u9 :: u10 :: u11 :: u12 :: u13 :: u14 :: u15 :: u16 :: u17 :: u18 :: u19 :: u20 :: u21 :: u22 :: u23 :: u24 :: u25 :: u26 :: u27 :: u28 :: u29 :: 
      u30 :: u31 :: u32 :: u33 :: u34 :: u35 :: u36 :: u37 :: u38 :: u39 :: u40 :: u41 :: u42 :: u43 :: u44 :: u45 :: u46 :: u47 :: u48 :: u49 :: u50 :: u51 :: u52 :: u53 :: u54 :: u55 :: u56 :: u57 :: u58 :: u59 :: u60 :: u61 :: x62 :: x63 :: x64 :: x65 :: x66 :: 
      x67 :: x68 :: x69 :: x70 :: x71 :: x72 :: x73 :: x74 :: x75 :: x76 :: u77 :: []), []⟩ w') :
    (Code.loop (loopBody Try.f59 2)).wp Try.prog Q ⟨List.toArray (u0 :: (.pointer (some ⟨g1, 0, none⟩)) :: u2 :: (.pointer (some ⟨g13, 0, none⟩)) :: u4 :: u5 :: u6 :: (.int .i64 0) :: u8 :: u9 :: u10 :: u11 :: u12 :: u13 :: u14 :: u15 :: u16 :: u17 :: u18 :: u19 :: u20 :: u21 :: u22 :: u23 :: u24 :: u25 :: u26 :: u27 :: u28 :: 
      u29 :: u30 :: u31 :: u32 :: u33 :: u34 :: u35 :: u36 :: u37 :: u38 :: u39 :: u40 :: u41 :: u42 :: u43 :: u44 :: u45 :: u46 :: u47 :: u48 :: u49 :: u50 :: u51 :: u52 :: u53 :: u54 :: u55 :: u56 :: u57 :: u58 :: u59 :: u60 :: u61 :: u62 :: u63 :: u64 :: u65 :: 
      u66 :: u67 :: u68 :: u69 :: u70 :: u71 :: u72 :: u73 :: u74 :: u75 :: u76 :: u77 :: []), []⟩ w := by
  conv => arg 2; arg 1; whnf
  have hAH := hide hA
  have hn1 := hX.s1.1
  have hml : (al.map fun (i : Nat) => (i : Int)).length = al.length := by simp
  have hmlH := hide hml
  rw [hml] at hn1
  clear hA hml
  go_loopw [7] (fun kk wr => ∃ (k : Nat) (ac' : Nat → Bool), kk = .int .i64 (k : Int) ∧ k ≤ al.length ∧ SubT wB wr L n g13 gl ga gv cv gi ci gj lf br ac' ∧ Hid (∀ q, q < n → (ac' q = true ↔ q ∈ al.take k))) (fun kk _ => al.length - (intOf kk).toNat)
  case atStart => exact ⟨0, _, rfl, Nat.zero_le _, hT, fun q _ => by simp⟩
  case round =>
    obtain ⟨k, ac', rfl, hk, hT', hI⟩ := hrel
    have hXr := hX.at hT'.below
    have hc1 := hXr.b.cell
    rw [hmlH.out] at hc1
    by_cases hlt : k < al.length
    · obtain ⟨b, off, e, rfl, hbk, he, hc⟩ := hXr.s1.at (k := k) (by rw [hmlH.out]; exact hlt)
      obtain ⟨q, hq⟩ := get_lt hlt
      have hqn := hAH.out q (List.mem_of_getElem? hq)
      have hqe := map_get (f := fun (i : Nat) => (i : Int)) hq
      rw [he] at hqe
      injection hqe with hqe
      subst hqe
      have d0 := hc 0 (by omega)
      simp only [Nat.add_zero, Nat.mul_one, encI] at d0
      have hc13 := hT'.b.cell
      have hca : wr.cell? ⟨ga, q, none⟩ = some (.bool (ac' q)) := by rw [hT'.t.acc.cell, rangeC_get _ hqn]
      have hfa := hT'.t.acc.frozen q
      have hla := hT'.t.acc.lt
      have hst := hide (hT'.drew.setAcc q true)
      have hqH := hide hq
      clear hc he hT' hXr hq
      go_wp2_with fail
      refine Reg.region_plain [0, 1, 0, 4, 0, 28, 60, 127, 255] (by kernel_rfl) (by repeat (first | exact hN | refine Reg.NoQ.then ?_ | refine Reg.NoQ.inBlock ?_)) ?_
      go_wp2_with fail
      refine ⟨⟨k + 1, _, by go_num, by omega, hst.out, fun q' hq' => ?_⟩, by simp [intOf]; omega⟩
      have ht := take_snoc hqH.out
      unfold up1
      rw [ht, List.mem_append, List.mem_singleton]
      split
      · rename_i e; simp [e]
      · rename_i hne
        rw [hI.out q' hq']
        simp [hne]
    · have hTH := hide hT'
      have e : k = al.length := by omega
      have hI2 := hI.out
      rw [e, List.take_length] at hI2
      have hI3 := hide hI2
      clear e hT' hI2
      go_wp2_with fail
      exact hQ _ _ _ _ _ _ _ _ _ _ _ _ _ _ _ _ wr ac' hTH.out hI3.out
end Go.Proofs.Ytnimlcbgeiajiaa

namespace Go.Proofs.Ytnimlcbgeiajiaa
open Go.RowKit

set_option maxHeartbeats 8000000 in
set_option maxRecDepth 100000 in
theorem table_any {w : World} {L : Nat} {v : Value} {ac : List Bool} {lf : List Nat} {t : List (List (List Nat))} (h : IsTA w w.heap.size v (plainA L ac lf t)) (hok : MOK L ac lf t) (hL : L ≤ 8) (hL1 : 1 ≤ L) (hn : ac.length ≤ 20000) :
    Calls Try.prog 59 #[v] w (Ret fun r w' => Below w.heap.size w w' ∧ ∃ gl ga gv cv gi ci gj, r = .agg #[.int .i64 (L : Int), .slice (some ⟨gl, 0, none⟩) L L, .slice (some ⟨gv, 0, none⟩) L cv, .slice (some ⟨ga, 0, none⟩) ac.length ac.length] ∧
      TblW w' w.heap.size L ac.length gl ga gv cv gi ci gj (mleaf lf) (mbr t) (macc ac)) := by
  obtain ⟨A1, c1, A2, c2, A3, c3, rfl, h1, h2, h3⟩ := h
  have hpos := hok.pos hL1
  have h1' : Sl w w.heap.size 1 encI A1 ((accIdx ac).map fun (i : Nat) => (i : Int)) := h1
  have h2' : Sl w w.heap.size 2 encL A2 (plLv lf) := h2
  have h3' : Sl w w.heap.size 4 encBr A3 (plBr L ac.length t) := h3
  show Calls Try.prog 59 #[.agg #[.int .i64 (L : Int), .int .i64 (ac.length : Int), .slice A1 ((accIdx ac).map fun (i : Nat) => (i : Int)).length c1, .slice A2 (plLv lf).length c2, .slice A3 (plBr L ac.length t).length c3]] w _
  obtain ⟨w1, hw1, hb1, hB1, hk1⟩ := box_blk w #[.int .i64 (L : Int), .int .i64 (ac.length : Int), .slice A1 (accIdx ac).length c1, .slice A2 (plLv lf).length c2, .slice A3 (plBr L ac.length t).length c3] 26
  obtain ⟨w2, hw2, hb2, hB2, hk2⟩ := box_blk w1 #[.int .i64 0, .slice none 0 0, .slice none 0 0, .slice none 0 0] 84
  have hsz1 := hb1.size
  have hsz2 := hb2.size
  have hb02 := hb1.trans (hb2.mono hsz1)
  have hlt2 := hB2.lt
  have hX := hide (show TabX w2 w.heap.size L ac.length A1 A2 A3 c1 c2 c3 ((accIdx ac).map fun (i : Nat) => (i : Int)) (plLv lf) (plBr L ac.length t) from
    ⟨by rw [List.length_map]; exact hB1.below hb2, (h1'.below hb02).mono (by omega), (h2'.below hb02).mono (by omega), (h3'.below hb02).mono (by omega)⟩)
  have hFl := hide (fun (e : Leaf) (he : e ∈ plLv lf) => show ∃ x, x < L ∧ e = ⟨(x : Int), (mleaf lf x : Int)⟩ from by
    obtain ⟨x, hx, rfl⟩ := mem_plLv.1 he
    exact ⟨x, by rw [← hok.lfl]; exact hx, rfl⟩)
  have hFb := hide (fun (e : Branch) (he : e ∈ plBr L ac.length t) => mem_plBr.1 he)
  have hAa := hide (fun (q : Nat) (hq : q ∈ accIdx ac) => (mem_accIdx.1 hq).1)
  have hlfl := hide hok.lfl
  have hc1 := (hB1.below hb2).cell
  clear h1 h2 h3 h1' h2' h3' hok
  go_enter Try.func59, Try.ntmps59
  go_wp2_with (go_at_call 84; refine Calls.ret (blank_any hL hL1 hn hpos) ?_; rintro v6 w6 ⟨hb6, gl, ga, gv, cv, gi, ci, gj, rfl, hT6⟩
               obtain ⟨w7, hw7, hb7, hB7, hk7⟩ := box_blk w6 #[.int .i64 (L : Int), .slice (some ⟨gl, 0, none⟩) L L, .slice (some ⟨gv, 0, none⟩) L cv, .slice (some ⟨ga, 0, none⟩) ac.length ac.length] 84
               have hT7 := hide (show SubT w2 w7 L ac.length w6.heap.size gl ga gv cv gi ci gj (fun _ => 0) (fun _ _ _ => 0) (fun _ => false) from ⟨hb6.trans (hb7.mono hb6.size), hT6.below hb7, hB7, hb6.size⟩)
               clear hb6 hT6 hc1)
  refine tab_leaves hX.out hFl.out hT7.out ?_ ?_
  · repeat (first | exact Reg.NoQ.body (fun _ _ h => h) (fun _ h => h) | refine Reg.NoQ.then ?_ | refine Reg.NoQ.inBlock ?_)
  · iterate 23 (intro _)
    intro w8 lf8 hT8 hl8
    have hTH8 := hide hT8
    have hlH8 := hide hl8
    clear hT8 hl8
    go_wp2_with fail
    refine tab_branches hX.out hFb.out hTH8.out ?_ ?_
    · repeat (first | exact Reg.NoQ.body (fun _ _ h => h) (fun _ h => h) | refine Reg.NoQ.then ?_ | refine Reg.NoQ.inBlock ?_)
    · iterate 29 (intro _)
      intro w9 br9 hT9 hl9
      have hTH9 := hide hT9
      have hlH9 := hide hl9
      clear hT9 hl9
      go_wp2_with fail
      refine tab_acc hX.out hAa.out hTH9.out ?_ ?_
      · repeat (first | exact Reg.NoQ.body (fun _ _ h => h) (fun _ h => h) | refine Reg.NoQ.then ?_ | refine Reg.NoQ.inBlock ?_)
      · iterate 16 (intro _)
        intro wa acF hTa hla
        have hTH := hide hTa
        have hlaH := hide hla
        have hca := hTa.b.cell
        have hBa := hB2.below hTa.below
        have hc2a := hBa.cell
        have hf2a := hBa.frozen
        have hl2a := hBa.lt
        clear hTa hla
        go_wp2_with fail
        obtain ⟨wF, hwF, hgF, hkF⟩ := set4t_facts hBa (.int .i64 (L : Int)) (.slice (some ⟨gl, 0, none⟩) L L) (.slice (some ⟨gv, 0, none⟩) L cv) (.slice (some ⟨ga, 0, none⟩) ac.length ac.length)
        change bodyPost _ _ _ _ _ (set4t wa w1.heap.size (.int .i64 (L : Int)) (.slice (some ⟨gl, 0, none⟩) L L) (.slice (some ⟨gv, 0, none⟩) L cv) (.slice (some ⟨ga, 0, none⟩) ac.length ac.length))
        rw [hwF]
        have hcF := hgF.cell
        have hsa := hTH.out.below.size
        refine bodyPost_ret (v := .agg #[.int .i64 (L : Int), .slice (some ⟨gl, 0, none⟩) L L, .slice (some ⟨gv, 0, none⟩) L cv, .slice (some ⟨ga, 0, none⟩) ac.length ac.length]) (by simp [results, Try.results59, go_sem, hcF]) rfl
          ⟨(hb02.trans (hTH.out.below.mono (by omega))).trans (hkF.below (by omega) fun b hb e => by omega), gl, ga, gv, cv, gi, ci, gj, rfl, ?_⟩
        refine ((hTH.out.t.keep hkF fun k e => by omega).weak (by omega)).congr (fun x hx => hlH8.out x hx (mem_plLv.2 ⟨x, by rw [hlfl.out]; exact hx, rfl⟩)) (fun x i j hx hi hj => hlH9.out x i j hx hi hj (mem_plBr.2 ⟨x, i, j, hx, hi, hj, rfl⟩)) (fun q hq => ?_)
        rw [Bool.eq_iff_iff, hlaH.out q hq, mem_accIdx]
        exact ⟨fun h => h.2, fun h => ⟨hq, h⟩⟩
end Go.Proofs.Ytnimlcbgeiajiaa
