/-
  Part VA of a proof.
-/
import Derived.Test.YtpmceapjnnkhjaaGreatDoorPA
import Derived.Test.YtpmceapjnnkhjaaGreatDoorPB
import Derived.Test.YtpmceapjnnkhjaaGreatDoorPI
set_option maxHeartbeats 16000000
set_option maxRecDepth 100000
set_option linter.unusedVariables false
set_option linter.unusedSimpArgs false
namespace Go.Proofs.YtpmceapjnnkhjaaGreatDoor
def WA.bestE (a : WA) (far : List Int) (m : List Bool) (l : Int) (k : Nat) : Int :=
 (a.edges.take k).foldl (fun b e => if m.getD e.frm.toNat false = true ∧ far.getD e.to.toNat (-1) = l ∧ e.letter < b then e.letter else b) a.letters
theorem WA.bestE_zero (a : WA) (far : List Int) (m : List Bool) (l : Int) : a.bestE far m l 0 = a.letters := rfl
theorem WA.bestE_step {a : WA} {far : List Int} {m : List Bool} {l : Int} {k : Nat} {e : Edg} (h : a.edges[k]? = some e) :
  a.bestE far m l (k + 1) = if m.getD e.frm.toNat false = true ∧ far.getD e.to.toNat (-1) = l ∧ e.letter < a.bestE far m l k then e.letter else a.bestE far m l k := by
 unfold WA.bestE
 rw [List.take_add_one, h]
 simp only [Option.toList_some, List.foldl_append, List.foldl_cons, List.foldl_nil]
theorem best_fold {p : Edg → Bool} : ∀ (es : List Edg) (b : Int),
  let r := es.foldl (fun b e => if p e = true ∧ e.letter < b then e.letter else b) b
  r ≤ b ∧ (∀ e ∈ es, p e = true → r ≤ e.letter) ∧ (r = b ∨ ∃ e ∈ es, p e = true ∧ r = e.letter)
 | [], b => ⟨Int.le_refl _, fun e he => absurd he List.not_mem_nil, .inl rfl⟩
 | e :: es, b => by
  intro r
  have hr : r = es.foldl (fun b e => if p e = true ∧ e.letter < b then e.letter else b) (if p e = true ∧ e.letter < b then e.letter else b) := rfl
  obtain ⟨h1, h2, h3⟩ := best_fold (p := p) es (if p e = true ∧ e.letter < b then e.letter else b)
  rw [← hr] at h1 h2 h3
  by_cases hc : p e = true ∧ e.letter < b
  ·rw [if_pos hc] at h1 h3
   refine ⟨by omega, fun x hx hp => ?_, ?_⟩
   ·rcases List.mem_cons.1 hx with rfl | hx
    ·exact h1
    ·exact h2 x hx hp
   ·rcases h3 with h3 | ⟨x, hx, h3⟩
    ·exact .inr ⟨e, List.mem_cons_self, hc.1, h3⟩
    ·exact .inr ⟨x, List.mem_cons_of_mem _ hx, h3⟩
  ·rw [if_neg hc] at h1 h3
   refine ⟨h1, fun x hx hp => ?_, ?_⟩
   ·rcases List.mem_cons.1 hx with rfl | hx
    ·have : ¬ x.letter < b := fun hl => hc ⟨hp, hl⟩
     omega
    ·exact h2 x hx hp
   ·rcases h3 with h3 | ⟨x, hx, h3⟩
    ·exact .inl h3
    ·exact .inr ⟨x, List.mem_cons_of_mem _ hx, h3⟩
theorem WA.bestE_pick {a : WA} (h : a.In) {far : List Int} {m : List Bool} {k x j : Nat} (hp : a.nf.pick far m k = some x) (hj : a.edges.length ≤ j) : a.bestE far m (k : Int) j = (x : Int) := by
 have hpk := List.find?_some hp
 have hxL : x < a.L := List.mem_range.1 (List.mem_of_find?_eq_some hp)
 have hfirst : ∀ y, y < x → someM (cutM far (a.nf.after m y) k) = false := fun y hy => by
  have := List.find?_eq_some_iff_append.1 hp
  obtain ⟨_, as1, bs, hab, hall⟩ := this
  have hys : y ∈ as1 := by
   have hlen : as1.length = x := by
    have h1 : (List.range a.nf.L)[as1.length]? = some x := by rw [hab]; simp
    rw [List.getElem?_eq_some_iff] at h1
    obtain ⟨h2, h3⟩ := h1
    simpa using h3
   have h1 : (List.range a.nf.L)[y]? = some y := by
    rw [List.getElem?_range]
    have : a.nf.L = a.L := rfl
    omega
   rw [hab, List.getElem?_append_left (by omega)] at h1
   exact List.mem_of_getElem? h1
  simpa using hall y hys
 have hcond : ∀ y, y < a.L → (someM (cutM far (a.nf.after m y) k) = true ↔ ∃ e ∈ a.edges, m.getD e.frm.toNat false = true ∧ far.getD e.to.toNat (-1) = (k : Int) ∧ e.letter = (y : Int)) := fun y hy => by
  rw [some_iff]
  constructor
  ·rintro ⟨q, hq, h1⟩
   obtain ⟨h2, h3⟩ := cutM_get.1 h1
   have hqn : q < a.nf.n := by simpa [cutM, NF.after_len] using hq
   obtain ⟨s, hs, h4, h5⟩ := (NF.after_get hqn).1 h2
   rw [a.nf_to (by rw [← a.nf_n]; exact hs) hy] at h5
   obtain ⟨e, he, h6, h7, h8⟩ := WA.mem_to.1 h5
   exact ⟨e, he, by rw [h6]; simpa using h4, by rw [h8]; simpa using h3, h7⟩
  ·rintro ⟨e, he, h1, h2, h3⟩
   obtain ⟨i1, i2, i3⟩ := h.edge e he
   obtain ⟨f, hf, hfn⟩ := inN_nat i1
   obtain ⟨t, ht, htn⟩ := inN_nat i3
   have htn' : t < a.nf.n := by rw [a.nf_n]; exact htn
   refine ⟨t, by simpa [cutM, NF.after_len] using htn', cutM_get.2 ⟨(NF.after_get htn').2 ⟨f, by rw [a.nf_n]; exact hfn, by rw [hf] at h1; simpa using h1, ?_⟩, by rw [ht] at h2; simpa using h2⟩⟩
   rw [a.nf_to hfn hy]
   exact WA.mem_to.2 ⟨e, he, hf, h3, ht⟩
 obtain ⟨b1, b2, b3⟩ := best_fold (p := fun e => m.getD e.frm.toNat false && decide (far.getD e.to.toNat (-1) = (k : Int))) a.edges a.letters
 have hbe : a.bestE far m (k : Int) j = a.edges.foldl (fun b e => if (m.getD e.frm.toNat false && decide (far.getD e.to.toNat (-1) = (k : Int))) = true ∧ e.letter < b then e.letter else b) a.letters := by
  unfold WA.bestE
  rw [List.take_of_length_le hj]
  congr 1
  funext b e
  simp only [Bool.and_eq_true, decide_eq_true_eq, and_assoc]
 rw [← hbe] at b1 b2 b3
 obtain ⟨e, he, h1, h2, h3⟩ := (hcond x hxL).1 hpk
 have hle := b2 e he (by simp only [Bool.and_eq_true, decide_eq_true_eq]; exact ⟨h1, h2⟩)
 have hL : (x : Int) < a.letters := by unfold WA.L at hxL; omega
 rcases b3 with b3 | ⟨e', he', h4, h5⟩
 ·omega
 ·simp only [Bool.and_eq_true, decide_eq_true_eq] at h4
  obtain ⟨i1, i2, i3⟩ := h.edge e' he'
  obtain ⟨y, hy, hyn⟩ := inN_nat i2
  rcases Nat.lt_or_ge y x with hlt | hge
  ·have := hfirst y hlt
   rw [(hcond y hyn).2 ⟨e', he', h4.1, h4.2, hy⟩] at this
   exact absurd this (by simp)
  ·omega
end Go.Proofs.YtpmceapjnnkhjaaGreatDoor
namespace Go.Proofs.YtpmceapjnnkhjaaGreatDoor
theorem snocW (w : List Nat) : w = [] ∨ ∃ v x, w = v ++ [x] := by
 rcases List.eq_nil_or_concat w with h | ⟨v, x, h⟩
 ·exact .inl h
 ·exact .inr ⟨v, x, by rw [h, List.concat_eq_append]⟩
def mgS (E : Nat → Nat → Prop) (s : Nat) : Prop := E s 0
def mgN (n : Nat) (nx : Nat → Nat → Nat) (E : Nat → Nat → Prop) (P : Nat → Prop) (x : Nat) : Nat → Prop := fun s => ∃ t, t < n ∧ P t ∧ E s (nx t x)
def mgR (n : Nat) (nx : Nat → Nat → Nat) (E : Nat → Nat → Prop) (w : List Nat) : Nat → Prop := runW (mgN n nx E) (mgS E) w
structure Mg (L n : Nat) (nx : Nat → Nat → Nat) (acc : Nat → Bool) (f : Nat → Nat) (a : NF) : Prop where
 hL : a.L = L
 lt : ∀ s, s < n → f s < a.n
 to : ∀ k x, k < a.n → x < L → ∀ y : Nat, (y : Int) ∈ a.to k x ↔ ∃ s, s < n ∧ f s = k ∧ y = f (nx s x)
 st : ∀ k : Nat, (k : Int) ∈ a.start ↔ k = f 0
 acc : ∀ k, k < a.n → (a.acc.getD k false = true ↔ ∃ s, s < n ∧ f s = k ∧ acc s = true)
section
variable {L n : Nat} {nx : Nat → Nat → Nat} {acc : Nat → Bool} {f g : Nat → Nat} {a b : NF}
structure MgM (n : Nat) (f : Nat → Nat) (k : Nat) (m : List Bool) (P : Nat → Prop) : Prop where
 len : m.length = k
 iff : ∀ s, s < n → (m.getD (f s) false = true ↔ P s)
 img : ∀ q, m.getD q false = true → ∃ s, s < n ∧ f s = q
theorem Mg.start (h : Mg L n nx acc f a) (hn : 0 < n) : MgM n f a.n a.st (mgS fun i j => f i = f j) := by
 refine ⟨a.st_len, fun s hs => ?_, fun q hq => ?_⟩
 ·rw [NF.st_get (h.lt s hs), decide_eq_true_iff, h.st]
  exact Iff.rfl
 ·have hq' : q < a.n := by
   rcases Nat.lt_or_ge q a.n with h1 | h1
   ·exact h1
   ·rw [List.getD_eq_getElem?_getD, List.getElem?_eq_none (by rw [a.st_len]; exact h1)] at hq
    simp at hq
  rw [NF.st_get hq', decide_eq_true_iff, h.st] at hq
  exact ⟨0, hn, hq.symm⟩
theorem Mg.step (h : Mg L n nx acc f a) (hM : ∀ q x, q < n → x < L → nx q x < n) {m : List Bool} {P : Nat → Prop} (hm : MgM n f a.n m P) {x : Nat} (hx : x < L) : MgM n f a.n (a.after m x) (mgN n nx (fun i j => f i = f j) P x) := by
 refine ⟨a.after_len m x, fun s hs => ?_, fun q hq => ?_⟩
 ·rw [NF.after_get (h.lt s hs)]
  constructor
  ·rintro ⟨k, hk, h1, h2⟩
   obtain ⟨t, ht, rfl, e⟩ := (h.to k x hk hx _).1 h2
   exact ⟨t, ht, (hm.iff t ht).1 h1, e⟩
  ·rintro ⟨t, ht, h1, h2⟩
   exact ⟨f t, h.lt t ht, (hm.iff t ht).2 h1, (h.to _ x (h.lt t ht) hx _).2 ⟨t, ht, rfl, h2⟩⟩
 ·have hq' : q < a.n := by
   rcases Nat.lt_or_ge q a.n with h1 | h1
   ·exact h1
   ·rw [List.getD_eq_getElem?_getD, List.getElem?_eq_none (by rw [a.after_len]; exact h1)] at hq
    simp at hq
  rw [NF.after_get hq'] at hq
  obtain ⟨k, hk, h1, h2⟩ := hq
  obtain ⟨t, ht, -, e⟩ := (h.to k x hk hx _).1 h2
  exact ⟨nx t x, hM t x ht hx, e.symm⟩
theorem Mg.run (h : Mg L n nx acc f a) (hM : ∀ q x, q < n → x < L → nx q x < n) (hn : 0 < n) (w : List Nat) (hw : okW L w) : MgM n f a.n (runW a.after a.st w) (mgR n nx (fun i j => f i = f j) w) := by
 obtain ⟨k, hk⟩ : ∃ k, k = w.length := ⟨_, rfl⟩
 induction k generalizing w with
 | zero =>
  rw [List.length_eq_zero_iff.1 hk.symm]
  exact h.start hn
 | succ k ih =>
  rcases snocW w with rfl | ⟨v, x, rfl⟩
  ·simp at hk
  ·skip
   have hv : okW L v := fun y hy => hw y (List.mem_append_left _ hy)
   have hx : x < L := hw x (by simp)
   unfold mgR
   rw [runW_snoc, runW_snoc]
   exact h.step hM (ih v hv (by simpa using hk)) hx
theorem Mg.lang (h : Mg L n nx acc f a) (hM : ∀ q x, q < n → x < L → nx q x < n) (hn : 0 < n) {w : List Nat} (hw : okW L w) : a.lang w = true ↔ ∃ s, s < n ∧ acc s = true ∧ mgR n nx (fun i j => f i = f j) w s := by
 have hr := h.run hM hn w hw
 unfold NF.lang
 rw [NF.has_iff]
 constructor
 ·rintro ⟨k, hk, h1, h2⟩
  obtain ⟨s, hs, rfl, h3⟩ := (h.acc k hk).1 h2
  exact ⟨s, hs, h3, (hr.iff s hs).1 h1⟩
 ·rintro ⟨s, hs, h1, h2⟩
  exact ⟨f s, h.lt s hs, (hr.iff s hs).2 h2, (h.acc _ (h.lt s hs)).2 ⟨s, hs, rfl, h1⟩⟩
theorem mgR_same {E E' : Nat → Nat → Prop} (hM : ∀ q x, q < n → x < L → nx q x < n) (hn : 0 < n) (hE : ∀ i j, i < n → j < n → (E i j ↔ E' i j)) (w : List Nat) (hw : okW L w) : ∀ s, s < n → (mgR n nx E w s ↔ mgR n nx E' w s) := by
 obtain ⟨k, hk⟩ : ∃ k, k = w.length := ⟨_, rfl⟩
 induction k generalizing w with
 | zero =>
  rw [List.length_eq_zero_iff.1 hk.symm]
  exact fun s hs => hE s 0 hs hn
 | succ k ih =>
  rcases snocW w with rfl | ⟨v, x, rfl⟩
  ·simp at hk
  ·skip
   have hv : okW L v := fun y hy => hw y (List.mem_append_left _ hy)
   have hx : x < L := hw x (by simp)
   have hi := ih v hv (by simpa using hk)
   intro s hs
   unfold mgR
   rw [runW_snoc, runW_snoc]
   exact ⟨fun ⟨t, ht, h1, h2⟩ => ⟨t, ht, (hi t ht).1 h1, (hE _ _ hs (hM t x ht hx)).1 h2⟩, fun ⟨t, ht, h1, h2⟩ => ⟨t, ht, (hi t ht).2 h1, (hE _ _ hs (hM t x ht hx)).2 h2⟩⟩
theorem Mg.same (h : Mg L n nx acc f a) (h' : Mg L n nx acc g b) (hM : ∀ q x, q < n → x < L → nx q x < n) (hn : 0 < n) (hfg : ∀ i j, i < n → j < n → (f i = f j ↔ g i = g j)) {w : List Nat} (hw : okW L w) : a.lang w = b.lang w := by
 rw [Bool.eq_iff_iff, h.lang hM hn hw, h'.lang hM hn hw]
 have hr := mgR_same (E := fun i j => f i = f j) (E' := fun i j => g i = g j) hM hn hfg w hw
 exact ⟨fun ⟨s, hs, h1, h2⟩ => ⟨s, hs, h1, (hr s hs).1 h2⟩, fun ⟨s, hs, h1, h2⟩ => ⟨s, hs, h1, (hr s hs).2 h2⟩⟩
theorem Mg.has_run (hM : ∀ q x, q < n → x < L → nx q x < n) (hn : 0 < n) {E : Nat → Nat → Prop} (hE : ∀ i, E i i) (w : List Nat) (hw : okW L w) : runW nx 0 w < n ∧ mgR n nx E w (runW nx 0 w) := by
 obtain ⟨k, hk⟩ : ∃ k, k = w.length := ⟨_, rfl⟩
 induction k generalizing w with
 | zero =>
  rw [List.length_eq_zero_iff.1 hk.symm]
  exact ⟨hn, hE 0⟩
 | succ k ih =>
  rcases snocW w with rfl | ⟨v, x, rfl⟩
  ·simp at hk
  ·skip
   have hv : okW L v := fun y hy => hw y (List.mem_append_left _ hy)
   have hx : x < L := hw x (by simp)
   obtain ⟨h1, h2⟩ := ih v hv (by simpa using hk)
   unfold mgR
   rw [runW_snoc, runW_snoc]
   exact ⟨hM _ _ h1 hx, _, h1, h2, hE _⟩
theorem Mg.more (h : Mg L n nx acc f a) (hM : ∀ q x, q < n → x < L → nx q x < n) (hn : 0 < n) {w : List Nat} (hw : okW L w) (ha : acc (runW nx 0 w) = true) : a.lang w = true := by
 rw [h.lang hM hn hw]
 obtain ⟨h1, h2⟩ := Mg.has_run (E := fun i j => f i = f j) hM hn (fun _ => rfl) w hw
 exact ⟨_, h1, ha, h2⟩
theorem MgM.inj {k : Nat} {m m' : List Bool} {P P' : Nat → Prop} (h : MgM n f k m P) (h' : MgM n f k m' P') (hP : ∀ s, s < n → (P s ↔ P' s)) : m = m' := by
 apply List.ext_getElem?
 intro q
 rcases Nat.lt_or_ge q k with hq | hq
 ·obtain ⟨x, hx⟩ := get_lt (l := m) (i := q) (by rw [h.len]; exact hq)
  obtain ⟨y, hy⟩ := get_lt (l := m') (i := q) (by rw [h'.len]; exact hq)
  rw [hx, hy]
  have e1 : m.getD q false = x := getD_some hx
  have e2 : m'.getD q false = y := getD_some hy
  congr 1
  rw [Bool.eq_iff_iff, ← e1, ← e2]
  constructor
  ·intro hm
   obtain ⟨s, hs, rfl⟩ := h.img q hm
   exact (h'.iff s hs).2 ((hP s hs).1 ((h.iff s hs).1 hm))
  ·intro hm
   obtain ⟨s, hs, rfl⟩ := h'.img q hm
   exact (h.iff s hs).2 ((hP s hs).2 ((h'.iff s hs).1 hm))
 ·rw [List.getElem?_eq_none (by rw [h.len]; exact hq), List.getElem?_eq_none (by rw [h'.len]; exact hq)]
theorem Mg.large1 (h : Mg L n nx acc f a) (h' : Mg L n nx acc g b) (hM : ∀ q x, q < n → x < L → nx q x < n) (hn : 0 < n) (hfg : ∀ i j, i < n → j < n → (f i = f j ↔ g i = g j)) {k : Nat} (hl : a.Large k) : b.Large k := by
 obtain ⟨i, l, hE, hk⟩ := hl
 rw [h.hL] at hE
 have hr := fun w hw => mgR_same (E := fun i j => f i = f j) (E' := fun i j => g i = g j) hM hn hfg w hw
 have hR : OneOne (fun m m' : List Bool => ∃ w, okW L w ∧ runW a.after a.st w = m ∧ runW b.after b.st w = m') := by
  rintro _ _ _ _ ⟨u, hu, rfl, rfl⟩ ⟨v, hv, rfl, rfl⟩
  have a1 := h.run hM hn u hu
  have a2 := h.run hM hn v hv
  have b1 := h'.run hM hn u hu
  have b2 := h'.run hM hn v hv
  constructor
  ·intro e
   refine b1.inj b2 fun s hs => ?_
   rw [← hr u hu s hs, ← hr v hv s hs, ← a1.iff s hs, ← a2.iff s hs, e]
  ·intro e
   refine a1.inj a2 fun s hs => ?_
   rw [hr u hu s hs, hr v hv s hs, ← b1.iff s hs, ← b2.iff s hs, e]
 obtain ⟨m, hm, hF⟩ := Exp.rel (δ' := b.after) (t0 := b.st) hR ⟨[], okW.nil L, rfl, rfl⟩ (by
  rintro _ _ x hx ⟨w, hw, rfl, rfl⟩
  exact ⟨w ++ [x], hw.snoc hx, runW_snoc _ _ _ _, runW_snoc _ _ _ _⟩) hE
 exact ⟨i, m, by rw [h'.hL]; exact hm, by rw [← hF.length]; exact hk⟩
theorem Mg.large (h : Mg L n nx acc f a) (h' : Mg L n nx acc g b) (hM : ∀ q x, q < n → x < L → nx q x < n) (hn : 0 < n) (hfg : ∀ i j, i < n → j < n → (f i = f j ↔ g i = g j)) {k : Nat} : a.Large k ↔ b.Large k :=
 ⟨h.large1 h' hM hn hfg, h'.large1 h hM hn fun i j hi hj => (hfg i j hi hj).symm⟩
end
section
variable {L : Nat} {t : List (List Nat)} {ac : List Bool} {cl : List Nat}
def mrgA (L : Nat) (t : List (List Nat)) (ac : List Bool) (cl : List Nat) : WA :=
 ⟨(L : Int), (ac.length : Int) + 1, [(cl.getD 0 0 : Int)], (setL ac).map fun q => (cl.getD q.toNat 0 : Int), (plainW L t ac).edges.map fun e => ⟨(cl.getD e.frm.toNat 0 : Int), e.letter, (cl.getD e.to.toNat 0 : Int)⟩⟩
theorem mrgA_n : (mrgA L t ac cl).n = ac.length + 1 := by
 unfold WA.n mrgA
 simp only
 omega
theorem mrgA_L : (mrgA L t ac cl).L = L := by simp [WA.L, mrgA]
theorem mrgA_in (hok : DOK L t ac) (hle : ∀ i, i < ac.length → cl.getD i 0 ≤ ac.length) : (mrgA L t ac cl).In := by
 have hp := plainW_in hok
 have hpos := hok.pos
 have key : ∀ i, i < ac.length → inN ((ac.length : Int) + 1) (cl.getD i 0 : Int) = true := fun i hi => by
  have := hle i hi
  rw [inN_iff]; omega
 refine ⟨fun x hx => ?_, fun x hx => ?_, fun e he => ?_⟩
 ·rw [List.mem_singleton.1 hx]; exact key 0 hpos
 ·obtain ⟨q, hq, rfl⟩ := List.mem_map.1 hx
  obtain ⟨k, rfl, hk⟩ := mem_setL.1 hq
  rw [Int.toNat_natCast]
  exact key k (lt_of_get hk)
 ·obtain ⟨e1, he1, rfl⟩ := List.mem_map.1 he
  obtain ⟨q, x, hq, hx, rfl⟩ := plainW_mem.1 he1
  have h1 := hok.lt hq hx
  refine ⟨?_, ?_, ?_⟩
  ·rw [Int.toNat_natCast]; exact key q hq
  ·show inN (L : Int) (x : Int) = true
   rw [inN_iff]; omega
  ·rw [Int.toNat_natCast]; exact key _ h1
theorem mrgA_mg (hle : ∀ i, i < ac.length → cl.getD i 0 ≤ ac.length) : Mg L ac.length (dnx t) (dac ac) (fun i => cl.getD i 0) (mrgA L t ac cl).nf := by
 have hn := (mrgA L t ac cl).nf_n
 rw [mrgA_n] at hn
 refine ⟨(mrgA_L : (mrgA L t ac cl).L = L), fun s hs => by rw [hn]; have := hle s hs; omega, fun k x hk hx y => ?_, fun k => ?_, fun k hk => ?_⟩
 ·rw [WA.nf_to _ (by rw [mrgA_n]; omega) (by rw [mrgA_L]; exact hx), WA.mem_to]
  constructor
  ·rintro ⟨e, he, h1, h2, h3⟩
   obtain ⟨e1, he1, rfl⟩ := List.mem_map.1 he
   obtain ⟨q, z, hq, hz, rfl⟩ := plainW_mem.1 he1
   simp only [Int.toNat_natCast] at h1 h2 h3
   refine ⟨q, hq, by omega, ?_⟩
   have : z = x := by omega
   subst this
   omega
  ·rintro ⟨s, hs, h1, h2⟩
   refine ⟨_, List.mem_map.2 ⟨_, plainW_mem.2 ⟨s, x, hs, hx, rfl⟩, rfl⟩, ?_, rfl, ?_⟩
   ·simp only [Int.toNat_natCast]; omega
   ·simp only [Int.toNat_natCast]; omega
 ·show (k : Int) ∈ [(cl.getD 0 0 : Int)] ↔ _
  rw [List.mem_singleton]
  exact Int.natCast_inj
 ·rw [WA.nf_acc (by rw [mrgA_n]; omega), decide_eq_true_iff]
  show (k : Int) ∈ (setL ac).map _ ↔ _
  rw [List.mem_map]
  constructor
  ·rintro ⟨q, hq, e⟩
   obtain ⟨s, rfl, hs⟩ := mem_setL.1 hq
   rw [Int.toNat_natCast] at e
   exact ⟨s, lt_of_get hs, by omega, by unfold dac; rw [getD_some hs]⟩
  ·rintro ⟨s, hs, rfl, h1⟩
   refine ⟨(s : Int), mem_setL.2 ⟨s, rfl, ?_⟩, by rw [Int.toNat_natCast]⟩
   unfold dac at h1
   rw [List.getElem?_eq_getElem hs]
   congr 1
   rw [getD_some (List.getElem?_eq_getElem hs)] at h1
   exact h1
end
end Go.Proofs.YtpmceapjnnkhjaaGreatDoor
namespace Go.Proofs.YtpmceapjnnkhjaaGreatDoor
structure Img (t : TR) (a : WA) (b : NF) : Prop where
 hL : b.L = t.L
 n : b.n = t.n * a.n
 to : ∀ p q x, p < t.n → q < a.n → x < t.L → ∀ m ∈ t.moves, ∀ e ∈ a.edges, m.frm = (p : Int) → e.frm = (q : Int) → m.inn = e.letter → m.out = (x : Int) → m.to * a.n + e.to ∈ b.to (p * a.n + q) x
 st : ∀ s ∈ t.start, ∀ q ∈ a.start, s * a.n + q ∈ b.start
 acc : ∀ p q, p < t.n → q < a.n → (p : Int) ∈ t.accept → (q : Int) ∈ a.accept → b.acc.getD (p * a.n + q) false = true
section
variable {t : TR} {a : WA} {b : NF}
theorem pr_lt {p q m n : Nat} (hp : p < m) (hq : q < n) : p * n + q < m * n := by
 have : p * n + n ≤ m * n := by
  rw [← Nat.succ_mul]
  exact Nat.mul_le_mul_right _ hp
 omega
theorem pr_cast (p q n : Nat) : ((p * n + q : Nat) : Int) = (p : Int) * (n : Int) + (q : Int) := by
 rw [Int.natCast_add, Int.natCast_mul]
theorem getD_lt {l : List Bool} {q : Nat} (h : l.getD q false = true) : q < l.length := by
 rcases Nat.lt_or_ge q l.length with h1 | h1
 ·exact h1
 ·rw [List.getD_eq_getElem?_getD, List.getElem?_eq_none h1] at h
  simp at h
theorem Img.run (h : Img t a b) (ht : t.In) {u v : List Nat} (hu : okW a.L u) (hv : okW t.L v) (hlen : u.length = v.length) : ∀ k, k ≤ u.length → ∀ p q : Nat,
  (t.setK (u.map fun x : Nat => (x : Int)) (v.map fun x : Nat => (x : Int)) k).getD p false = true → (runW a.nf.after a.nf.st (u.take k)).getD q false = true → (runW b.after b.st (v.take k)).getD (p * a.n + q) false = true := by
 intro k
 induction k with
 | zero =>
  intro _ p q hp hq
  have h1 := getD_lt hp
  rw [TR.setK_len] at h1
  have h2 := getD_lt hq
  rw [List.take_zero] at hq h2
  have h2 : q < a.n := by rw [← a.nf_n, ← a.nf.st_len]; exact h2
  have e1 : (p : Int) ∈ t.start := by
   have : (marksM t.n t.start).getD p false = true := by simpa [TR.setK] using hp
   rw [getD_some (marksM_get h1)] at this
   exact of_decide_eq_true this
  have e2 : (q : Int) ∈ a.start := by
   have : a.nf.st.getD q false = true := hq
   rw [NF.st_get (by rw [a.nf_n]; exact h2)] at this
   exact of_decide_eq_true this
  rw [List.take_zero]
  show b.st.getD _ false = true
  rw [NF.st_get (by rw [h.n]; exact pr_lt h1 h2), decide_eq_true_iff, pr_cast]
  exact h.st _ e1 _ e2
 | succ k ih =>
  intro hk p q hp hq
  have h1 := getD_lt hp
  rw [TR.setK_len] at h1
  obtain ⟨x, hx⟩ := get_lt (l := u) (i := k) (by omega)
  obtain ⟨y, hy⟩ := get_lt (l := v) (i := k) (by omega)
  have hxL := hu x (List.mem_of_getElem? hx)
  have hyL := hv y (List.mem_of_getElem? hy)
  have hx' : (u.map fun x : Nat => (x : Int))[k]? = some (x : Int) := by rw [List.getElem?_map, hx]; rfl
  have hy' : (v.map fun x : Nat => (x : Int))[k]? = some (y : Int) := by rw [List.getElem?_map, hy]; rfl
  rw [TR.setK_step hx' hy', getD_some (TR.nextM_get h1)] at hp
  obtain ⟨m, hm, hme⟩ := List.any_eq_true.1 hp
  rw [List.take_length] at hm
  simp only [Bool.and_eq_true, decide_eq_true_eq] at hme
  obtain ⟨⟨⟨m1, m2⟩, m3⟩, m4⟩ := hme
  have hu1 : u.take (k + 1) = u.take k ++ [x] := by rw [List.take_add_one, hx]; rfl
  have hv1 : v.take (k + 1) = v.take k ++ [y] := by rw [List.take_add_one, hy]; rfl
  rw [hu1, runW_snoc] at hq
  have h2 := getD_lt hq
  rw [NF.after_len] at h2
  obtain ⟨s, hs, s1, s2⟩ := (NF.after_get h2).1 hq
  rw [a.nf_n] at hs h2
  rw [a.nf_to hs hxL] at s2
  obtain ⟨e, he, e1, e2, e3⟩ := WA.mem_to.1 s2
  obtain ⟨f1, -, -, f2⟩ := ht.move m hm
  obtain ⟨r, hr, hrn⟩ := inN_nat f1
  have hrn : r < t.n := hrn
  rw [hr, Int.toNat_natCast] at m1
  have hi := ih (by omega) r s m1 s1
  rw [hv1, runW_snoc, NF.after_get (by rw [h.n]; exact pr_lt h1 h2)]
  refine ⟨r * a.n + s, by rw [h.n]; exact pr_lt hrn hs, hi, ?_⟩
  have := h.to r s y hrn hs hyL m hm e he hr e1 (by rw [m2, e2]) m3
  rwa [m4, e3, ← pr_cast] at this
theorem Img.lang (h : Img t a b) (ht : t.In) {u v : List Nat} (hu : okW a.L u) (hv : okW t.L v) (hlen : u.length = v.length) (hin : a.lang u = true) (hon : t.rel (u.map fun x : Nat => (x : Int)) (v.map fun x : Nat => (x : Int)) = true) : b.lang v = true := by
 unfold WA.lang NF.lang at hin
 obtain ⟨q, hq, q1, q2⟩ := NF.has_iff.1 hin
 rw [a.nf_n] at hq
 rw [WA.nf_acc hq, decide_eq_true_iff] at q2
 unfold TR.rel at hon
 obtain ⟨s, hs, s1⟩ := List.any_eq_true.1 hon
 obtain ⟨p, rfl, hp⟩ := inN_nat (ht.accept s hs)
 rw [Int.toNat_natCast, List.length_map] at s1
 have := h.run ht hu hv hlen u.length (Nat.le_refl _) p q s1 (by rw [List.take_length]; exact q1)
 rw [hlen, List.take_length] at this
 unfold NF.lang
 rw [NF.has_iff]
 have hp : p < t.n := hp
 exact ⟨p * a.n + q, by rw [h.n]; exact pr_lt hp hq, this, h.acc p q hp hq hs q2⟩
end
end Go.Proofs.YtpmceapjnnkhjaaGreatDoor
namespace Go.Proofs.YtpmceapjnnkhjaaGreatDoor
open Go.RowKit
section
variable {S : Type} [DecidableEq S] {L : Nat} {δ : S → Nat → S} {s0 : S}
theorem rowsG_lang {all : List S} (h : Disc L δ s0 all) (f : S → Bool) {w : List Nat} (hw : okW L w) : langT (rowsG L δ all all.length) (all.map f) w = f (runW δ s0 w) := by
 have hD := rowsG_dok (δ := δ) h (ac := all.map f) (by simp)
 have h1 := h.num hw
 have h2 : runW (dnx (rowsG L δ all all.length)) 0 w = runW (numW δ all) 0 w := by
  have := runW_congr (L := L) (n := all.length) (nx := dnx (rowsG L δ all all.length)) (nx' := numW δ all) (fun q x hq hx => by have := hD.lt (by simpa using hq) hx; simpa using this) (fun q x hq hx => (rowsG_num hq hx).symm) w 0 hw (by have := hD.pos; simpa using this)
  exact this.symm
 unfold langT
 rw [h2]
 unfold dac
 rw [getD_some (map_get h1)]
end
def dPr (t u : List (List Nat)) (p : Nat × Nat) (x : Nat) : Nat × Nat := (dnx t p.1 x, dnx u p.2 x)
def accPr (op : Bool → Bool → Bool) (ac bc : List Bool) (p : Nat × Nat) : Bool := op (dac ac p.1) (dac bc p.2)
theorem runPr (t u : List (List Nat)) : ∀ (w : List Nat) (p q : Nat), runW (dPr t u) (p, q) w = (runW (dnx t) p w, runW (dnx u) q w)
 | [], _, _ => rfl
 | x :: w, p, q => runPr t u w _ _
section
variable {L : Nat} {t u : List (List Nat)} {ac bc : List Bool} {all : List (Nat × Nat)} {op : Bool → Bool → Bool}
theorem pr_lang (h : Disc L (dPr t u) (0, 0) all) {w : List Nat} (hw : okW L w) : langT (rowsG L (dPr t u) all all.length) (all.map (accPr op ac bc)) w = op (langT t ac w) (langT u bc w) := by
 rw [rowsG_lang h _ hw, runPr]
 rfl
theorem pr_in (h : DOK L t ac) (h' : DOK L u bc) {i : Nat} (hE : Exp L (dPr t u) (0, 0) i all) {p : Nat × Nat} (hp : p ∈ all) : p.1 < ac.length ∧ p.2 < bc.length := by
 obtain ⟨w, hw, rfl⟩ := hE.inv.reach p hp
 rw [runPr]
 exact ⟨h.run hw, h'.run hw⟩
theorem pr_len (h : DOK L t ac) (h' : DOK L u bc) {i : Nat} (hE : Exp L (dPr t u) (0, 0) i all) : all.length ≤ ac.length * bc.length := by
 have hn : (all.map fun p => p.1 * bc.length + p.2).Nodup := by
  refine List.pairwise_map.2 (hE.inv.nodup.imp_of_mem fun {p q} hp hq hne he => hne ?_)
  obtain ⟨-, h2⟩ := pr_in h h' hE hp
  obtain ⟨-, h4⟩ := pr_in h h' hE hq
  have e1 : p.1 = q.1 := by
   have := congrArg (· / bc.length) he
   simp only [Nat.add_comm (_ * _), Nat.add_mul_div_right _ _ (show 0 < bc.length by omega), Nat.div_eq_of_lt h2, Nat.div_eq_of_lt h4] at this
   omega
  have e2 : p.2 = q.2 := by rw [e1] at he; omega
  exact Prod.ext e1 e2
 have := sub_len _ (List.range (ac.length * bc.length)) hn fun k hk => by
  obtain ⟨p, hp, rfl⟩ := List.mem_map.1 hk
  obtain ⟨h1, h2⟩ := pr_in h h' hE hp
  rw [List.mem_range]
  have : p.1 * bc.length + bc.length ≤ ac.length * bc.length := by
   rw [← Nat.succ_mul]
   exact Nat.mul_le_mul_right _ h1
  omega
 simpa using this
end
section
variable {L : Nat} {t : List (List Nat)} {ac : List Bool} {Λ : List Nat → Bool}
theorem CanT.compl (h : CanT L t ac Λ) : CanT L t (ac.map (!·)) fun w => !Λ w := by
 have ha : ∀ q, q < ac.length → dac (ac.map (!·)) q = !dac ac q := fun q hq => by
  obtain ⟨b, hb⟩ := get_lt hq
  unfold dac
  rw [getD_some (map_get hb), getD_some hb]
 refine ⟨⟨by rw [h.ok.len, List.length_map], by rw [List.length_map]; exact h.ok.pos, fun r hr => by rw [List.length_map]; exact h.ok.row r hr⟩, ?_⟩
 rw [List.length_map]
 refine ⟨fun w hw => ?_, fun u v hu hv hz => h.can.sep u v hu hv fun z hzz => ?_, h.can.ord⟩
 ·rw [ha _ (h.can.run_lt hw), h.can.lang w hw]
 ·have := hz z hzz
  simpa using this
end
end Go.Proofs.YtpmceapjnnkhjaaGreatDoor
