/-
  Part XB of a proof.
-/
import Derived.Test.YtpmceapjnnkhjaaDoorPA
import Derived.Test.YtpmceapjnnkhjaaDoorVA
import Derived.Test.YtpmceapjnnkhjaaDoorXA
set_option maxHeartbeats 16000000
set_option maxRecDepth 100000
set_option linter.unusedVariables false
set_option linter.unusedSimpArgs false
namespace Go.Proofs.YtpmceapjnnkhjaaDoor
theorem snocW (w : List Nat) : w = [] ∨ ∃ v x, w = v ++ [x] := by
 rcases List.eq_nil_or_concat w with h | ⟨v, x, h⟩
 ·exact .inl h
 ·exact .inr ⟨v, x, by rw [h, List.concat_eq_append]⟩
def mgS (E : Nat → Nat → Prop) (s : Nat) : Prop := E s 0
def mgN (n : Nat) (nx : Nat → Nat → Nat) (E : Nat → Nat → Prop) (P : Nat → Prop) (x : Nat) : Nat → Prop := fun s => ∃ t, t < n ∧ P t ∧ E s (nx t x)
def mgR (n : Nat) (nx : Nat → Nat → Nat) (E : Nat → Nat → Prop) (w : List Nat) : Nat → Prop := runW (mgN n nx E) (mgS E) w
structure Mg (L n : Nat) (nx : Nat → Nat → Nat) (acc : Nat → Bool) (f : Nat → Nat) (a : NF) : Prop where
 hL : a.L = L
 lt : ∀ s, s < n → f s < a.n
 to : ∀ k x, k < a.n → x < L → ∀ y : Nat, (y : Int) ∈ a.to k x ↔ ∃ s, s < n ∧ f s = k ∧ y = f (nx s x)
 st : ∀ k : Nat, (k : Int) ∈ a.start ↔ k = f 0
 acc : ∀ k, k < a.n → (a.acc.getD k false = true ↔ ∃ s, s < n ∧ f s = k ∧ acc s = true)
section
variable {L n : Nat} {nx : Nat → Nat → Nat} {acc : Nat → Bool} {f g : Nat → Nat} {a b : NF}
structure MgM (n : Nat) (f : Nat → Nat) (k : Nat) (m : List Bool) (P : Nat → Prop) : Prop where
 len : m.length = k
 iff : ∀ s, s < n → (m.getD (f s) false = true ↔ P s)
 img : ∀ q, m.getD q false = true → ∃ s, s < n ∧ f s = q
theorem Mg.start (h : Mg L n nx acc f a) (hn : 0 < n) : MgM n f a.n a.st (mgS fun i j => f i = f j) := by
 refine ⟨a.st_len, fun s hs => ?_, fun q hq => ?_⟩
 ·rw [NF.st_get (h.lt s hs), decide_eq_true_iff, h.st]
  exact Iff.rfl
 ·have hq' : q < a.n := by
   rcases Nat.lt_or_ge q a.n with h1 | h1
   ·exact h1
   ·rw [List.getD_eq_getElem?_getD, List.getElem?_eq_none (by rw [a.st_len]; exact h1)] at hq
    simp at hq
  rw [NF.st_get hq', decide_eq_true_iff, h.st] at hq
  exact ⟨0, hn, hq.symm⟩
theorem Mg.step (h : Mg L n nx acc f a) (hM : ∀ q x, q < n → x < L → nx q x < n) {m : List Bool} {P : Nat → Prop} (hm : MgM n f a.n m P) {x : Nat} (hx : x < L) : MgM n f a.n (a.after m x) (mgN n nx (fun i j => f i = f j) P x) := by
 refine ⟨a.after_len m x, fun s hs => ?_, fun q hq => ?_⟩
 ·rw [NF.after_get (h.lt s hs)]
  constructor
  ·rintro ⟨k, hk, h1, h2⟩
   obtain ⟨t, ht, rfl, e⟩ := (h.to k x hk hx _).1 h2
   exact ⟨t, ht, (hm.iff t ht).1 h1, e⟩
  ·rintro ⟨t, ht, h1, h2⟩
   exact ⟨f t, h.lt t ht, (hm.iff t ht).2 h1, (h.to _ x (h.lt t ht) hx _).2 ⟨t, ht, rfl, h2⟩⟩
 ·have hq' : q < a.n := by
   rcases Nat.lt_or_ge q a.n with h1 | h1
   ·exact h1
   ·rw [List.getD_eq_getElem?_getD, List.getElem?_eq_none (by rw [a.after_len]; exact h1)] at hq
    simp at hq
  rw [NF.after_get hq'] at hq
  obtain ⟨k, hk, h1, h2⟩ := hq
  obtain ⟨t, ht, -, e⟩ := (h.to k x hk hx _).1 h2
  exact ⟨nx t x, hM t x ht hx, e.symm⟩
theorem Mg.run (h : Mg L n nx acc f a) (hM : ∀ q x, q < n → x < L → nx q x < n) (hn : 0 < n) (w : List Nat) (hw : okW L w) : MgM n f a.n (runW a.after a.st w) (mgR n nx (fun i j => f i = f j) w) := by
 obtain ⟨k, hk⟩ : ∃ k, k = w.length := ⟨_, rfl⟩
 induction k generalizing w with
 | zero =>
  rw [List.length_eq_zero_iff.1 hk.symm]
  exact h.start hn
 | succ k ih =>
  rcases snocW w with rfl | ⟨v, x, rfl⟩
  ·simp at hk
  ·skip
   have hv : okW L v := fun y hy => hw y (List.mem_append_left _ hy)
   have hx : x < L := hw x (by simp)
   unfold mgR
   rw [runW_snoc, runW_snoc]
   exact h.step hM (ih v hv (by simpa using hk)) hx
theorem Mg.lang (h : Mg L n nx acc f a) (hM : ∀ q x, q < n → x < L → nx q x < n) (hn : 0 < n) {w : List Nat} (hw : okW L w) : a.lang w = true ↔ ∃ s, s < n ∧ acc s = true ∧ mgR n nx (fun i j => f i = f j) w s := by
 have hr := h.run hM hn w hw
 unfold NF.lang
 rw [NF.has_iff]
 constructor
 ·rintro ⟨k, hk, h1, h2⟩
  obtain ⟨s, hs, rfl, h3⟩ := (h.acc k hk).1 h2
  exact ⟨s, hs, h3, (hr.iff s hs).1 h1⟩
 ·rintro ⟨s, hs, h1, h2⟩
  exact ⟨f s, h.lt s hs, (hr.iff s hs).2 h2, (h.acc _ (h.lt s hs)).2 ⟨s, hs, rfl, h1⟩⟩
theorem mgR_same {E E' : Nat → Nat → Prop} (hM : ∀ q x, q < n → x < L → nx q x < n) (hn : 0 < n) (hE : ∀ i j, i < n → j < n → (E i j ↔ E' i j)) (w : List Nat) (hw : okW L w) : ∀ s, s < n → (mgR n nx E w s ↔ mgR n nx E' w s) := by
 obtain ⟨k, hk⟩ : ∃ k, k = w.length := ⟨_, rfl⟩
 induction k generalizing w with
 | zero =>
  rw [List.length_eq_zero_iff.1 hk.symm]
  exact fun s hs => hE s 0 hs hn
 | succ k ih =>
  rcases snocW w with rfl | ⟨v, x, rfl⟩
  ·simp at hk
  ·skip
   have hv : okW L v := fun y hy => hw y (List.mem_append_left _ hy)
   have hx : x < L := hw x (by simp)
   have hi := ih v hv (by simpa using hk)
   intro s hs
   unfold mgR
   rw [runW_snoc, runW_snoc]
   exact ⟨fun ⟨t, ht, h1, h2⟩ => ⟨t, ht, (hi t ht).1 h1, (hE _ _ hs (hM t x ht hx)).1 h2⟩, fun ⟨t, ht, h1, h2⟩ => ⟨t, ht, (hi t ht).2 h1, (hE _ _ hs (hM t x ht hx)).2 h2⟩⟩
theorem Mg.same (h : Mg L n nx acc f a) (h' : Mg L n nx acc g b) (hM : ∀ q x, q < n → x < L → nx q x < n) (hn : 0 < n) (hfg : ∀ i j, i < n → j < n → (f i = f j ↔ g i = g j)) {w : List Nat} (hw : okW L w) : a.lang w = b.lang w := by
 rw [Bool.eq_iff_iff, h.lang hM hn hw, h'.lang hM hn hw]
 have hr := mgR_same (E := fun i j => f i = f j) (E' := fun i j => g i = g j) hM hn hfg w hw
 exact ⟨fun ⟨s, hs, h1, h2⟩ => ⟨s, hs, h1, (hr s hs).1 h2⟩, fun ⟨s, hs, h1, h2⟩ => ⟨s, hs, h1, (hr s hs).2 h2⟩⟩
theorem Mg.has_run (hM : ∀ q x, q < n → x < L → nx q x < n) (hn : 0 < n) {E : Nat → Nat → Prop} (hE : ∀ i, E i i) (w : List Nat) (hw : okW L w) : runW nx 0 w < n ∧ mgR n nx E w (runW nx 0 w) := by
 obtain ⟨k, hk⟩ : ∃ k, k = w.length := ⟨_, rfl⟩
 induction k generalizing w with
 | zero =>
  rw [List.length_eq_zero_iff.1 hk.symm]
  exact ⟨hn, hE 0⟩
 | succ k ih =>
  rcases snocW w with rfl | ⟨v, x, rfl⟩
  ·simp at hk
  ·skip
   have hv : okW L v := fun y hy => hw y (List.mem_append_left _ hy)
   have hx : x < L := hw x (by simp)
   obtain ⟨h1, h2⟩ := ih v hv (by simpa using hk)
   unfold mgR
   rw [runW_snoc, runW_snoc]
   exact ⟨hM _ _ h1 hx, _, h1, h2, hE _⟩
theorem Mg.more (h : Mg L n nx acc f a) (hM : ∀ q x, q < n → x < L → nx q x < n) (hn : 0 < n) {w : List Nat} (hw : okW L w) (ha : acc (runW nx 0 w) = true) : a.lang w = true := by
 rw [h.lang hM hn hw]
 obtain ⟨h1, h2⟩ := Mg.has_run (E := fun i j => f i = f j) hM hn (fun _ => rfl) w hw
 exact ⟨_, h1, ha, h2⟩
theorem MgM.inj {k : Nat} {m m' : List Bool} {P P' : Nat → Prop} (h : MgM n f k m P) (h' : MgM n f k m' P') (hP : ∀ s, s < n → (P s ↔ P' s)) : m = m' := by
 apply List.ext_getElem?
 intro q
 rcases Nat.lt_or_ge q k with hq | hq
 ·obtain ⟨x, hx⟩ := get_lt (l := m) (i := q) (by rw [h.len]; exact hq)
  obtain ⟨y, hy⟩ := get_lt (l := m') (i := q) (by rw [h'.len]; exact hq)
  rw [hx, hy]
  have e1 : m.getD q false = x := getD_some hx
  have e2 : m'.getD q false = y := getD_some hy
  congr 1
  rw [Bool.eq_iff_iff, ← e1, ← e2]
  constructor
  ·intro hm
   obtain ⟨s, hs, rfl⟩ := h.img q hm
   exact (h'.iff s hs).2 ((hP s hs).1 ((h.iff s hs).1 hm))
  ·intro hm
   obtain ⟨s, hs, rfl⟩ := h'.img q hm
   exact (h.iff s hs).2 ((hP s hs).2 ((h'.iff s hs).1 hm))
 ·rw [List.getElem?_eq_none (by rw [h.len]; exact hq), List.getElem?_eq_none (by rw [h'.len]; exact hq)]
theorem Mg.large1 (h : Mg L n nx acc f a) (h' : Mg L n nx acc g b) (hM : ∀ q x, q < n → x < L → nx q x < n) (hn : 0 < n) (hfg : ∀ i j, i < n → j < n → (f i = f j ↔ g i = g j)) {k : Nat} (hl : a.Large k) : b.Large k := by
 obtain ⟨i, l, hE, hk⟩ := hl
 rw [h.hL] at hE
 have hr := fun w hw => mgR_same (E := fun i j => f i = f j) (E' := fun i j => g i = g j) hM hn hfg w hw
 have hR : OneOne (fun m m' : List Bool => ∃ w, okW L w ∧ runW a.after a.st w = m ∧ runW b.after b.st w = m') := by
  rintro _ _ _ _ ⟨u, hu, rfl, rfl⟩ ⟨v, hv, rfl, rfl⟩
  have a1 := h.run hM hn u hu
  have a2 := h.run hM hn v hv
  have b1 := h'.run hM hn u hu
  have b2 := h'.run hM hn v hv
  constructor
  ·intro e
   refine b1.inj b2 fun s hs => ?_
   rw [← hr u hu s hs, ← hr v hv s hs, ← a1.iff s hs, ← a2.iff s hs, e]
  ·intro e
   refine a1.inj a2 fun s hs => ?_
   rw [hr u hu s hs, hr v hv s hs, ← b1.iff s hs, ← b2.iff s hs, e]
 obtain ⟨m, hm, hF⟩ := Exp.rel (δ' := b.after) (t0 := b.st) hR ⟨[], okW.nil L, rfl, rfl⟩ (by
  rintro _ _ x hx ⟨w, hw, rfl, rfl⟩
  exact ⟨w ++ [x], hw.snoc hx, runW_snoc _ _ _ _, runW_snoc _ _ _ _⟩) hE
 exact ⟨i, m, by rw [h'.hL]; exact hm, by rw [← hF.length]; exact hk⟩
theorem Mg.large (h : Mg L n nx acc f a) (h' : Mg L n nx acc g b) (hM : ∀ q x, q < n → x < L → nx q x < n) (hn : 0 < n) (hfg : ∀ i j, i < n → j < n → (f i = f j ↔ g i = g j)) {k : Nat} : a.Large k ↔ b.Large k :=
 ⟨h.large1 h' hM hn hfg, h'.large1 h hM hn fun i j hi hj => (hfg i j hi hj).symm⟩
end
section
variable {L : Nat} {t : List (List Nat)} {ac : List Bool} {cl : List Nat}
def mrgA (L : Nat) (t : List (List Nat)) (ac : List Bool) (cl : List Nat) : WA :=
 ⟨(L : Int), (ac.length : Int) + 1, [(cl.getD 0 0 : Int)], (setL ac).map fun q => (cl.getD q.toNat 0 : Int), (plainW L t ac).edges.map fun e => ⟨(cl.getD e.frm.toNat 0 : Int), e.letter, (cl.getD e.to.toNat 0 : Int)⟩⟩
theorem mrgA_n : (mrgA L t ac cl).n = ac.length + 1 := by
 unfold WA.n mrgA
 simp only
 omega
theorem mrgA_L : (mrgA L t ac cl).L = L := by simp [WA.L, mrgA]
theorem mrgA_in (hok : DOK L t ac) (hle : ∀ i, i < ac.length → cl.getD i 0 ≤ ac.length) : (mrgA L t ac cl).In := by
 have hp := plainW_in hok
 have hpos := hok.pos
 have key : ∀ i, i < ac.length → inN ((ac.length : Int) + 1) (cl.getD i 0 : Int) = true := fun i hi => by
  have := hle i hi
  rw [inN_iff]; omega
 refine ⟨fun x hx => ?_, fun x hx => ?_, fun e he => ?_⟩
 ·rw [List.mem_singleton.1 hx]; exact key 0 hpos
 ·obtain ⟨q, hq, rfl⟩ := List.mem_map.1 hx
  obtain ⟨k, rfl, hk⟩ := mem_setL.1 hq
  rw [Int.toNat_natCast]
  exact key k (lt_of_get hk)
 ·obtain ⟨e1, he1, rfl⟩ := List.mem_map.1 he
  obtain ⟨q, x, hq, hx, rfl⟩ := plainW_mem.1 he1
  have h1 := hok.lt hq hx
  refine ⟨?_, ?_, ?_⟩
  ·rw [Int.toNat_natCast]; exact key q hq
  ·show inN (L : Int) (x : Int) = true
   rw [inN_iff]; omega
  ·rw [Int.toNat_natCast]; exact key _ h1
theorem mrgA_mg (hle : ∀ i, i < ac.length → cl.getD i 0 ≤ ac.length) : Mg L ac.length (dnx t) (dac ac) (fun i => cl.getD i 0) (mrgA L t ac cl).nf := by
 have hn := (mrgA L t ac cl).nf_n
 rw [mrgA_n] at hn
 refine ⟨(mrgA_L : (mrgA L t ac cl).L = L), fun s hs => by rw [hn]; have := hle s hs; omega, fun k x hk hx y => ?_, fun k => ?_, fun k hk => ?_⟩
 ·rw [WA.nf_to _ (by rw [mrgA_n]; omega) (by rw [mrgA_L]; exact hx), WA.mem_to]
  constructor
  ·rintro ⟨e, he, h1, h2, h3⟩
   obtain ⟨e1, he1, rfl⟩ := List.mem_map.1 he
   obtain ⟨q, z, hq, hz, rfl⟩ := plainW_mem.1 he1
   simp only [Int.toNat_natCast] at h1 h2 h3
   refine ⟨q, hq, by omega, ?_⟩
   have : z = x := by omega
   subst this
   omega
  ·rintro ⟨s, hs, h1, h2⟩
   refine ⟨_, List.mem_map.2 ⟨_, plainW_mem.2 ⟨s, x, hs, hx, rfl⟩, rfl⟩, ?_, rfl, ?_⟩
   ·simp only [Int.toNat_natCast]; omega
   ·simp only [Int.toNat_natCast]; omega
 ·show (k : Int) ∈ [(cl.getD 0 0 : Int)] ↔ _
  rw [List.mem_singleton]
  exact Int.natCast_inj
 ·rw [WA.nf_acc (by rw [mrgA_n]; omega), decide_eq_true_iff]
  show (k : Int) ∈ (setL ac).map _ ↔ _
  rw [List.mem_map]
  constructor
  ·rintro ⟨q, hq, e⟩
   obtain ⟨s, rfl, hs⟩ := mem_setL.1 hq
   rw [Int.toNat_natCast] at e
   exact ⟨s, lt_of_get hs, by omega, by unfold dac; rw [getD_some hs]⟩
  ·rintro ⟨s, hs, rfl, h1⟩
   refine ⟨(s : Int), mem_setL.2 ⟨s, rfl, ?_⟩, by rw [Int.toNat_natCast]⟩
   unfold dac at h1
   rw [List.getElem?_eq_getElem hs]
   congr 1
   rw [getD_some (List.getElem?_eq_getElem hs)] at h1
   exact h1
end
end Go.Proofs.YtpmceapjnnkhjaaDoor
namespace Go.Proofs.YtpmceapjnnkhjaaDoor
structure Img (t : TR) (a : WA) (b : NF) : Prop where
 hL : b.L = t.L
 n : b.n = t.n * a.n
 to : ∀ p q x, p < t.n → q < a.n → x < t.L → ∀ m ∈ t.moves, ∀ e ∈ a.edges, m.frm = (p : Int) → e.frm = (q : Int) → m.inn = e.letter → m.out = (x : Int) → m.to * a.n + e.to ∈ b.to (p * a.n + q) x
 st : ∀ s ∈ t.start, ∀ q ∈ a.start, s * a.n + q ∈ b.start
 acc : ∀ p q, p < t.n → q < a.n → (p : Int) ∈ t.accept → (q : Int) ∈ a.accept → b.acc.getD (p * a.n + q) false = true
section
variable {t : TR} {a : WA} {b : NF}
theorem pr_lt {p q m n : Nat} (hp : p < m) (hq : q < n) : p * n + q < m * n := by
 have : p * n + n ≤ m * n := by
  rw [← Nat.succ_mul]
  exact Nat.mul_le_mul_right _ hp
 omega
theorem pr_cast (p q n : Nat) : ((p * n + q : Nat) : Int) = (p : Int) * (n : Int) + (q : Int) := by
 rw [Int.natCast_add, Int.natCast_mul]
theorem getD_lt {l : List Bool} {q : Nat} (h : l.getD q false = true) : q < l.length := by
 rcases Nat.lt_or_ge q l.length with h1 | h1
 ·exact h1
 ·rw [List.getD_eq_getElem?_getD, List.getElem?_eq_none h1] at h
  simp at h
theorem Img.run (h : Img t a b) (ht : t.In) {u v : List Nat} (hu : okW a.L u) (hv : okW t.L v) (hlen : u.length = v.length) : ∀ k, k ≤ u.length → ∀ p q : Nat,
  (t.setK (u.map fun x : Nat => (x : Int)) (v.map fun x : Nat => (x : Int)) k).getD p false = true → (runW a.nf.after a.nf.st (u.take k)).getD q false = true → (runW b.after b.st (v.take k)).getD (p * a.n + q) false = true := by
 intro k
 induction k with
 | zero =>
  intro _ p q hp hq
  have h1 := getD_lt hp
  rw [TR.setK_len] at h1
  have h2 := getD_lt hq
  rw [List.take_zero] at hq h2
  have h2 : q < a.n := by rw [← a.nf_n, ← a.nf.st_len]; exact h2
  have e1 : (p : Int) ∈ t.start := by
   have : (marksM t.n t.start).getD p false = true := by simpa [TR.setK] using hp
   rw [getD_some (marksM_get h1)] at this
   exact of_decide_eq_true this
  have e2 : (q : Int) ∈ a.start := by
   have : a.nf.st.getD q false = true := hq
   rw [NF.st_get (by rw [a.nf_n]; exact h2)] at this
   exact of_decide_eq_true this
  rw [List.take_zero]
  show b.st.getD _ false = true
  rw [NF.st_get (by rw [h.n]; exact pr_lt h1 h2), decide_eq_true_iff, pr_cast]
  exact h.st _ e1 _ e2
 | succ k ih =>
  intro hk p q hp hq
  have h1 := getD_lt hp
  rw [TR.setK_len] at h1
  obtain ⟨x, hx⟩ := get_lt (l := u) (i := k) (by omega)
  obtain ⟨y, hy⟩ := get_lt (l := v) (i := k) (by omega)
  have hxL := hu x (List.mem_of_getElem? hx)
  have hyL := hv y (List.mem_of_getElem? hy)
  have hx' : (u.map fun x : Nat => (x : Int))[k]? = some (x : Int) := by rw [List.getElem?_map, hx]; rfl
  have hy' : (v.map fun x : Nat => (x : Int))[k]? = some (y : Int) := by rw [List.getElem?_map, hy]; rfl
  rw [TR.setK_step hx' hy', getD_some (TR.nextM_get h1)] at hp
  obtain ⟨m, hm, hme⟩ := List.any_eq_true.1 hp
  rw [List.take_length] at hm
  simp only [Bool.and_eq_true, decide_eq_true_eq] at hme
  obtain ⟨⟨⟨m1, m2⟩, m3⟩, m4⟩ := hme
  have hu1 : u.take (k + 1) = u.take k ++ [x] := by rw [List.take_add_one, hx]; rfl
  have hv1 : v.take (k + 1) = v.take k ++ [y] := by rw [List.take_add_one, hy]; rfl
  rw [hu1, runW_snoc] at hq
  have h2 := getD_lt hq
  rw [NF.after_len] at h2
  obtain ⟨s, hs, s1, s2⟩ := (NF.after_get h2).1 hq
  rw [a.nf_n] at hs h2
  rw [a.nf_to hs hxL] at s2
  obtain ⟨e, he, e1, e2, e3⟩ := WA.mem_to.1 s2
  obtain ⟨f1, -, -, f2⟩ := ht.move m hm
  obtain ⟨r, hr, hrn⟩ := inN_nat f1
  have hrn : r < t.n := hrn
  rw [hr, Int.toNat_natCast] at m1
  have hi := ih (by omega) r s m1 s1
  rw [hv1, runW_snoc, NF.after_get (by rw [h.n]; exact pr_lt h1 h2)]
  refine ⟨r * a.n + s, by rw [h.n]; exact pr_lt hrn hs, hi, ?_⟩
  have := h.to r s y hrn hs hyL m hm e he hr e1 (by rw [m2, e2]) m3
  rwa [m4, e3, ← pr_cast] at this
theorem Img.lang (h : Img t a b) (ht : t.In) {u v : List Nat} (hu : okW a.L u) (hv : okW t.L v) (hlen : u.length = v.length) (hin : a.lang u = true) (hon : t.rel (u.map fun x : Nat => (x : Int)) (v.map fun x : Nat => (x : Int)) = true) : b.lang v = true := by
 unfold WA.lang NF.lang at hin
 obtain ⟨q, hq, q1, q2⟩ := NF.has_iff.1 hin
 rw [a.nf_n] at hq
 rw [WA.nf_acc hq, decide_eq_true_iff] at q2
 unfold TR.rel at hon
 obtain ⟨s, hs, s1⟩ := List.any_eq_true.1 hon
 obtain ⟨p, rfl, hp⟩ := inN_nat (ht.accept s hs)
 rw [Int.toNat_natCast, List.length_map] at s1
 have := h.run ht hu hv hlen u.length (Nat.le_refl _) p q s1 (by rw [List.take_length]; exact q1)
 rw [hlen, List.take_length] at this
 unfold NF.lang
 rw [NF.has_iff]
 have hp : p < t.n := hp
 exact ⟨p * a.n + q, by rw [h.n]; exact pr_lt hp hq, this, h.acc p q hp hq hs q2⟩
end
end Go.Proofs.YtpmceapjnnkhjaaDoor
namespace Go.Proofs.YtpmceapjnnkhjaaDoor
open Go.RowKit
set_option maxHeartbeats 16000000
set_option maxRecDepth 100000
namespace Reg
def Spl.chkI (P : Program) (ops : Array Oper) : Spl → List Nat → Bool
 | .leaf T, tab => statB ops tab && pairB (relB P true ops tab) T && T.all (fun i => decide (i < ops.size)) && fullB ops T
 | .node i j s t, tab => decide (i < ops.size) && decide (j < ops.size) && i != j && s.chkI P ops (addT tab i j) && t.chkI P ops (addT tab j i)
def Spl.goalI (P : Program) (ops : Array Oper) (Q : Post) (a : Act) (w : World) : Spl → List Nat → Prop
 | .leaf T, tab => RestI P ops tab Q [] T a w
 | .node i j s t, tab => s.goalI P ops Q a w (addT tab i j) ∧ t.goalI P ops Q a w (addT tab j i)
theorem splI_ops {P : Program} {ops : Array Oper} {Q : Post} {a : Act} {w : World} (hQ : NoQ Q) (s : Spl) : ∀ (tab l : List Nat), s.chkI P ops tab = true → Con tab l → l.Nodup → (∀ i ∈ l, i < ops.size) → (∀ i, i < ops.size → i ∈ l) → s.goalI P ops Q a w tab →
  wpOps P ops Q l a w := by
 induction s with
 | leaf T =>
  intro tab l hc hl hn hin hall hg
  simp only [Spl.chkI, Bool.and_eq_true] at hc
  obtain ⟨⟨⟨h1, h4⟩, h5⟩, h6⟩ := hc
  have hS : Stat P ops (befT tab) := stat_of h1
  have hT : T.Pairwise (Rel P true ops (befT tab)) := (pairB_pairwise T h4).imp fun {x y} hxy => by
   simp only [relB, Bool.and_eq_true, bne_iff_ne, ne_eq, Bool.not_eq_true', Bool.or_eq_true] at hxy
   refine ⟨hxy.1.1, hxy.1.2, ?_⟩
   rcases hxy.2 with h | h
   ·exact .inl h
   ·exact .inr fun ox oy hx hy => by rw [hx, hy] at h; exact h
  have hin' : ∀ x ∈ T, x < ops.size := fun x hx => by
   rw [List.all_eq_true] at h5
   simpa using h5 x hx
  have hTn : T.Nodup := (hT.imp fun {x y} hxy => hxy.1)
  have hperm : l.Perm T := (List.perm_ext_iff_of_nodup hn hTn).2 fun i => ⟨fun hi => fullB_mem h6 i (hin i hi), fun hi => hall i (hin' i hi)⟩
  have e : (fun k => k ∈ ([] : List Nat)) = fun _ => False := by funext k; simp
  have hg' : RestI P ops tab Q [] T a w := hg
  unfold RestI at hg'
  rw [e] at hg'
  exact WT_ops hQ _ _ _ _ (perm hQ hS T _ _ _ _ hperm hT hin' hl (fun r q hr => hr.elim) hg')
 | node i j s t ihs iht =>
  intro tab l hc hl hn hin hall hg
  simp only [Spl.chkI, Bool.and_eq_true, bne_iff_ne, ne_eq, decide_eq_true_eq] at hc
  obtain ⟨⟨⟨⟨h1, h2⟩, h3⟩, h4⟩, h5⟩ := hc
  obtain ⟨p, hp⟩ := List.mem_iff_getElem?.1 (hall i h1)
  obtain ⟨q, hq⟩ := List.mem_iff_getElem?.1 (hall j h2)
  rcases Nat.lt_trichotomy p q with h | h | h
  ·exact ihs _ l h4 (con_add hl hp hq h) hn hin hall hg.1
  ·subst h
   rw [hp] at hq
   exact absurd (Option.some.inj hq) h3
  ·exact iht _ l h5 (con_add hl hq hp h) hn hin hall hg.2
theorem region_splI {P : Program} {l : List Oper} {id : Nat} {Q : Post} {a : Act} {w : World} (tab : List Nat) (s : Spl) (hc : (befOkT l.toArray tab && drawB l.toArray && s.chkI P l.toArray tab) = true) (hQ : NoQ Q)
  (h : s.goalI P l.toArray Q a w.drew tab) : (Code.region id l.toArray true).wp P Q a w := by
 simp only [Bool.and_eq_true] at hc
 obtain ⟨⟨h2, h3⟩, h4⟩ := hc
 refine wp_region_draw fun t => ?_
 obtain ⟨⟨m, hlin⟩, hfull⟩ := schedule_lin h3 (P.follows .mixedOrders) t
 obtain ⟨p1, p2, p3⟩ := lin_bef (fun {i j} => befOkT_edge h2) _ [] hlin (fun j hj => by simp at hj)
 exact splI_ops hQ s tab _ h4 p1 p2 (fun i hi => (p3 i hi).1) (fun i hi => hfull i hi) h
theorem restI_walkE {P : Program} {Q : Post} {a : Act} {w : World} {l l1 : List Oper} {tab D T : List Nat} (T1 T2 : List Nat) (hT : T1 ++ T2 = T) (hl : pick l.toArray T1 = l1)
  (hc : (T1.all (fun i => decide (i < l.length)) && plainB P true l.toArray tab T1 && D.all (fun r => T1.all fun y => match l.toArray[r]?, l.toArray[y]? with
   | some q, some oy => !loadOp q.op || !eff P true oy || befT tab r y
   | _, _ => true) && fineB l.toArray T1) = true)
  (h : ∀ Qf : Post, (∀ a w, fineT l.toArray T1 a = true ∧ RestI P l.toArray tab Q (T1 ++ D) T2 a w → Qf .normal a w) → wpList P l.toArray Qf l1 a w) : RestI P l.toArray tab Q D T a w := by
 subst hT
 exact restI_walk T1 T2 hl hc h
end Reg
structure MrM (w0 wr : World) (g6 gs L n c0 : Nat) (vC vE : Value) (as' : List Int) (es : List Edg) : Prop where
 below : Below w0.heap.size w0 wr
 b6 : Blk wr g6 25 #[.int .i64 (L : Int), .int .i64 ((n : Int) + 1), .slice (some ⟨gs, 0, none⟩) 1 1, vC, vE]
 start : Blk wr gs 3 #[.int .i64 (c0 : Int)]
 acc : wr.ownsRow w0.heap.size 3 1 vC as'.length (as'.map (Value.int .i64))
 eds : wr.ownsRow w0.heap.size 35 3 vE es.length (es.flatMap eC)
 sepC : vC.ownBlock ≠ some gs
 ge : w0.heap.size ≤ g6 ∧ w0.heap.size ≤ gs
section
variable {w0 wr w' : World} {g6 gs L n c0 : Nat} {vC vE : Value} {as' : List Int} {es : List Edg}
theorem MrM.keep (h : MrM w0 wr g6 gs L n c0 vC vE as' es) (hb : Below wr.heap.size wr w') : MrM w0 w' g6 gs L n c0 vC vE as' es :=
 ⟨h.below.trans (hb.mono h.below.size), h.b6.below hb, h.start.below hb, own_below h.acc hb, own_below h.eds hb, h.sepC, h.ge⟩
theorem MrM.addA {q : Int} {vC' : Value} {w1 : World} (h : MrM w0 wr g6 gs L n c0 vC vE as' es) (hk1 : Kept wr w1 (fun k => vC.ownBlock = some k)) (ho : w1.ownsRow w0.heap.size 3 1 vC' (as'.length + 1) (as'.map (Value.int .i64) ++ [.int .i64 q])) (hmv : Moved wr vC vC') :
  MrM w0 (w1.setCell ⟨g6, 3, none⟩ vC') g6 gs L n c0 vC' vE (as' ++ [q]) es := by
 have n6 := h.b6.kept hk1 (own_blk_ne h.acc h.b6 (by decide))
 have hk2 := (Kept.refl w1 (fun k => k = g6)).setCell (p := ⟨g6, 3, none⟩) (fun _ => rfl) vC'
 have hall : Kept wr (w1.setCell ⟨g6, 3, none⟩ vC') (fun k => vC.ownBlock = some k ∨ k = g6) := (hk1.mono fun _ _ e => .inl e).trans hk2 fun _ _ e => .inr e
 have hty : ∀ {e : TypeId}, e ≠ 3 → e ≠ 25 → ∀ g cs, (vC.ownBlock = some g ∨ g = g6) → ¬ Blk wr g e cs := by
  rintro e h1 h2 g cs (e1 | e1) hB
  ·exact own_blk_ne h.acc hB (fun hh => h1 hh.symm) e1
  ·exact hB.ne_ h.b6 h2 e1
 refine ⟨h.below.trans (hall.below h.below.size ?_), n6.set_ 3 vC', h.start.kept hall ?_, ?_, own_ty hall h.eds (hty (by decide) (by decide)), moved_ne hmv h.start.lt h.sepC, h.ge⟩
 ·rintro b hb (e | e)
  ·have := own_base h.acc e; omega
  ·have := h.ge; omega
 ·rintro (e | e)
  ·exact h.sepC e
  ·exact h.start.ne_ h.b6 (by decide) e
 ·rw [List.length_append, List.map_append]
  exact own_ty hk2 ho (fun g cs e hB => by subst e; exact hB.ne_ n6 (by decide) rfl)
theorem MrM.addE {d : Edg} {vE' : Value} {w1 : World} (h : MrM w0 wr g6 gs L n c0 vC vE as' es) (hk1 : Kept wr w1 (fun k => vE.ownBlock = some k)) (ho : w1.ownsRow w0.heap.size 35 3 vE' (es.length + 1) (es.flatMap eC ++ eC d)) :
  MrM w0 (w1.setCell ⟨g6, 4, none⟩ vE') g6 gs L n c0 vC vE' as' (es ++ [d]) := by
 have n6 := h.b6.kept hk1 (own_blk_ne h.eds h.b6 (by decide))
 have hk2 := (Kept.refl w1 (fun k => k = g6)).setCell (p := ⟨g6, 4, none⟩) (fun _ => rfl) vE'
 have hall : Kept wr (w1.setCell ⟨g6, 4, none⟩ vE') (fun k => vE.ownBlock = some k ∨ k = g6) := (hk1.mono fun _ _ e => .inl e).trans hk2 fun _ _ e => .inr e
 have hty : ∀ {e : TypeId}, e ≠ 35 → e ≠ 25 → ∀ g cs, (vE.ownBlock = some g ∨ g = g6) → ¬ Blk wr g e cs := by
  rintro e h1 h2 g cs (e1 | e1) hB
  ·exact own_blk_ne h.eds hB (fun hh => h1 hh.symm) e1
  ·exact hB.ne_ h.b6 h2 e1
 refine ⟨h.below.trans (hall.below h.below.size ?_), n6.set_ 4 vE', h.start.kept hall fun x => hty (by decide) (by decide) _ _ x h.start, own_ty hall h.acc (hty (by decide) (by decide)), ?_, h.sepC, h.ge⟩
 ·rintro b hb (e | e)
  ·have := own_base h.eds e; omega
  ·have := h.ge; omega
 ·rw [List.length_append, List.flatMap_append]
  refine own_ty hk2 ?_ (fun g cs e hB => by subst e; exact hB.ne_ n6 (by decide) rfl)
  simpa using ho
theorem MrM.fin {wF : World} (h : MrM w0 wr g6 gs L n c0 vC vE as' es) (hk : Kept wr wF (fun k => k < w0.heap.size)) (ha : as'.length ≤ 4000000) (he : es.length ≤ 4000000) :
  IsWA wF wF.heap.size (.agg #[.int .i64 (L : Int), .int .i64 ((n : Int) + 1), .slice (some ⟨gs, 0, none⟩) 1 1, vC, vE]) ⟨(L : Int), (n : Int) + 1, [(c0 : Int)], as', es⟩ := by
 have hge := h.ge
 have hA := hk.ownsRow h.acc fun g hg e => by have := own_base h.acc hg; omega
 have hE := hk.ownsRow h.eds fun g hg e => by have := own_base h.eds hg; omega
 have hS := h.start.kept hk fun e => by omega
 obtain ⟨A2, c2, e2, h2⟩ := own_slI (B := wF.heap.size) hA rfl (Nat.le_refl _) (by omega)
 obtain ⟨A3, c3, e3, h3⟩ := own_slE (B := wF.heap.size) hE rfl (Nat.le_refl _) (by omega)
 obtain ⟨A1, c1, e1, h1⟩ := own_slI (B := wF.heap.size) (l := [(c0 : Int)]) (base := 0) (own_of_blk (n := 1) hS (Nat.zero_le _) rfl (by omega)) rfl (Nat.le_refl _) (by omega)
 injection e1 with e1 _ e4
 subst e1
 exact ⟨_, 1, A2, c2, A3, c3, by rw [e2, e3]; rfl, h1, h2, h3, Nat.le_refl _⟩
end
theorem mr_open {w : World} {g2 gc L n c0 : Nat} {x2 x3 x4 : Value} {cl : List Nat} (hB : Blk w g2 25 #[.int .i64 (L : Int), .int .i64 (n : Int), x2, x3, x4]) (hC : NumsAt w gc n cl) (hn : n ≤ 200000) (hc0 : cl[0]? = some c0)
    {u0 u1 u3 u4 u6 u7 u8 u9 u10 u11 u12 u13 u14 u15 u16 u17 u18 u19 u20 u21 u22 u23 u24 u25 u26 u27 u28 u29 u30 u31 u32 u33 u34 u35 u36 u37 u38 u39 u40 u41 u42 u43 u44 u45 u46 u47 u48 u49 u50 u51 u52 u53 u54 u55 u56 u57 u58 u59 u60 u61 u62 u63 u64 u65 u66 u67 u68 u69 u70 u71 u72 u73 u74 u75 u76 : Value}
    {Q : Exit → Act → World → Prop} (hN : Reg.NoQ Q)
    (hQ : ∀ (x16 x17 x18 x19 x20 x21 x22 x23 x24 x25 : Value) (w' : World) (g6 gs : Nat), MrM w w' g6 gs L n c0 sn0 sn0 [] [] → Q .normal ⟨List.toArray (u0 :: u1 :: (.pointer (some ⟨g2, 0, none⟩)) :: u3 :: u4 :: (.slice (some ⟨gc, 0, none⟩) n n) :: (.pointer (some ⟨g6, 0, none⟩)) :: u7 :: u8 :: u9 :: u10 :: u11 :: u12 :: u13 :: u14 :: u15 :: x16 :: x17 :: x18 :: x19 :: x20 :: x21 :: x22 :: x23 :: x24 :: x25 ::
      u26 :: u27 :: u28 :: u29 :: u30 :: u31 :: u32 :: u33 :: u34 :: u35 :: u36 :: u37 :: u38 :: u39 :: u40 :: u41 :: u42 :: u43 :: u44 :: u45 :: u46 :: u47 :: u48 :: u49 :: u50 :: u51 :: u52 :: u53 :: u54 :: u55 :: u56 :: u57 :: u58 :: u59 :: u60 :: u61 :: u62 ::
      u63 :: u64 :: u65 :: u66 :: u67 :: u68 :: u69 :: u70 :: u71 :: u72 :: u73 :: u74 :: u75 :: u76 :: []), []⟩ w') :
    (regionAt Tryd.f77 2).wp Tryd.prog Q ⟨List.toArray (u0 :: u1 :: (.pointer (some ⟨g2, 0, none⟩)) :: u3 :: u4 :: (.slice (some ⟨gc, 0, none⟩) n n) :: u6 :: u7 :: u8 :: u9 :: u10 :: u11 :: u12 :: u13 :: u14 :: u15 :: u16 :: u17 :: u18 :: u19 :: u20 :: u21 :: u22 :: u23 :: u24 :: u25 :: u26 :: u27 :: u28 :: u29 ::
      u30 :: u31 :: u32 :: u33 :: u34 :: u35 :: u36 :: u37 :: u38 :: u39 :: u40 :: u41 :: u42 :: u43 :: u44 :: u45 :: u46 :: u47 :: u48 :: u49 :: u50 :: u51 :: u52 :: u53 :: u54 :: u55 :: u56 :: u57 :: u58 :: u59 :: u60 :: u61 :: u62 :: u63 :: u64 :: u65 :: u66 ::
      u67 :: u68 :: u69 :: u70 :: u71 :: u72 :: u73 :: u74 :: u75 :: u76 :: []), []⟩ w := by
  conv => arg 2; whnf
  have f2 := hB.cell
  have hc := hC.2.2 0 c0 hc0
  have hn0 : 0 < n := by have := hC.1; have := lt_of_get hc0; omega
  clear hc0
  have hne : ∀ (g6 gs : Nat) (wF : World), Below w.heap.size w wF → Blk wF g6 25 #[.int .i64 (L : Int), .int .i64 ((n : Int) + 1), .slice (some ⟨gs, 0, none⟩) 1 1, sn0, sn0] → Blk wF gs 3 #[.int .i64 (c0 : Int)] → w.heap.size ≤ g6 → w.heap.size ≤ gs → MrM w wF g6 gs L n c0 sn0 sn0 [] []   := fun _ _ _ h1 h2 h3 h4 h5 => ⟨h1, h2, h3, own_nil, own_nil, by simp [sn0, Value.ownBlock], h4, h5⟩
  have hneH := hide hne
  clear hne
  refine Reg.region_splI [0, 1, 0, 4, 12, 0, 32, 96, 224, 511, 0, 2047] (.node 8 10 (.node 9 10 (.leaf [0, 1, 2, 3, 4, 5, 6, 7, 8, 9, 10, 11]) (.leaf [0, 1, 2, 3, 4, 5, 6, 7, 8, 10, 9, 11])) (.leaf [0, 1, 2, 3, 4, 5, 6, 7, 10, 8, 9, 11])) (by kernel_rfl) hN ?_
  dsimp only [Reg.Spl.goalI]
  refine And.intro (And.intro ?_ ?_) ?_
  iterate 2
    · obtain ⟨w1, hw1, hb1, hB1, hk1⟩ := box_blk w #[.int .i64 (c0 : Int)] 3
      obtain ⟨w2, hw2, hb2, hB2, hk2⟩ := box_blk w1 #[.int .i64 0, .int .i64 0, .slice none 0 0, .slice none 0 0, .slice none 0 0] 25
      have s1 := hb1.size
      have l1 := hB1.lt
      have hB1' := hB1.below hb2
      have f5 := hB2.frozen
      have l5 := hB2.lt
      have hc5 := hB2.cell
      obtain ⟨wF, hwF, hBF, hKF⟩ := set5_facts hB2 (.int .i64 (L : Int)) (.int .i64 ((n : Int) + 1)) (.slice (some ⟨w.heap.size, 0, none⟩) 1 1) sn0 sn0
      have s2 := hb2.size
      have hbe0 : Below w.heap.size w wF := hb1.trans ((hb2.mono s1).trans (hKF.below (by omega) fun b hb e => by omega))
      have hbe : Below w.heap.size w wF.drew := hbe0.trans ((drewB wF).mono hbe0.size)
      have hS : Blk wF w.heap.size 3 #[.int .i64 (c0 : Int)] := Blk.kept hB1' hKF (by omega)
      have hMr := hide (hneH.out _ _ _ hbe (show Blk wF.drew _ 25 _ from hBF) (show Blk wF.drew _ 3 _ from hS) (by omega) (Nat.le_refl _))
      have hwH := hide hwF
      unfold set5 sn0 at hwF
      clear hb1 hB1 hk1 hb2 hB2 hk2 hB1' hBF hKF hbe hbe0 hS s2
      refine Reg.restI_walkE [0, 1, 2, 3, 4, 5, 6, 7] _ rfl rfl (by kernel_rfl) ?_
      intro Qf hQf
      go_wp2_with fail
      first | refine hQf _ _ ⟨rfl, ?_⟩ | refine ⟨rfl, ?_⟩
      try clear hQf
      first
      | (refine Reg.restI_walkE [8, 9, 10] _ rfl rfl (by kernel_rfl) ?_
         intro Qf hQf
         go_wp2_with fail
         first | refine hQf _ _ ⟨rfl, ?_⟩ | refine ⟨rfl, ?_⟩
         try clear hQf)
      | (refine Reg.restI_walkE [8, 10, 9] _ rfl rfl (by kernel_rfl) ?_
         intro Qf hQf
         go_wp2_with fail
         first | refine hQf _ _ ⟨rfl, ?_⟩ | refine ⟨rfl, ?_⟩
         try clear hQf)
      refine Reg.restI_act 11 _ [] rfl (by kernel_rfl) ?_
      intro Qf hQf
      simp only [gT, gS, gZ]
      go_wp2_with fail
      first | refine hQf _ _ ⟨Reg.nm, ?_⟩ | refine ⟨Reg.nm, ?_⟩
      try clear hQf
      refine Reg.restI_end ?_
      first | exact hQ _ _ _ _ _ _ _ _ _ _ _ _ _ hMr.out | trace_state
  · obtain ⟨w1, hw1, hb1, hB1, hk1⟩ := box_blk w #[.int .i64 0, .int .i64 0, .slice none 0 0, .slice none 0 0, .slice none 0 0] 25
    obtain ⟨w2, hw2, hb2, hB2, hk2⟩ := box_blk w1 #[.int .i64 (c0 : Int)] 3
    have s1 := hb1.size
    have l1 := hB1.lt
    have l2 := hB2.lt
    have hB1' := hB1.below hb2
    have f5 := hB1'.frozen
    have l5 := hB1'.lt
    have hc5 := hB1'.cell
    obtain ⟨wF, hwF, hBF, hKF⟩ := set5_facts hB1' (.int .i64 (L : Int)) (.int .i64 ((n : Int) + 1)) (.slice (some ⟨w1.heap.size, 0, none⟩) 1 1) sn0 sn0
    have s2 := hb2.size
    have hbe0 : Below w.heap.size w wF := hb1.trans ((hb2.mono s1).trans (hKF.below (by omega) fun b hb e => by omega))
    have hbe : Below w.heap.size w wF.drew := hbe0.trans ((drewB wF).mono hbe0.size)
    have hS : Blk wF w1.heap.size 3 #[.int .i64 (c0 : Int)] := Blk.kept hB2 hKF (by omega)
    have hMr := hide (hneH.out _ _ _ hbe (show Blk wF.drew _ 25 _ from hBF) (show Blk wF.drew _ 3 _ from hS) (Nat.le_refl _) (by omega))
    have hwH := hide hwF
    unfold set5 sn0 at hwF
    clear hb1 hB1 hk1 hb2 hB2 hk2 hB1' hBF hKF hbe hbe0 hS s2
    refine Reg.restI_walkE [0, 1, 2, 3, 4, 5, 6, 7] _ rfl rfl (by kernel_rfl) ?_
    intro Qf hQf
    go_wp2_with fail
    first | refine hQf _ _ ⟨rfl, ?_⟩ | refine ⟨rfl, ?_⟩
    try clear hQf
    refine Reg.restI_walkE [10, 8, 9] _ rfl rfl (by kernel_rfl) ?_
    intro Qf hQf
    go_wp2_with fail
    first | refine hQf _ _ ⟨rfl, ?_⟩ | refine ⟨rfl, ?_⟩
    try clear hQf
    refine Reg.restI_act 11 _ [] rfl (by kernel_rfl) ?_
    intro Qf hQf
    simp only [gT, gS, gZ]
    go_wp2_with fail
    first | refine hQf _ _ ⟨Reg.nm, ?_⟩ | refine ⟨Reg.nm, ?_⟩
    try clear hQf
    refine Reg.restI_end ?_
    first | exact hQ _ _ _ _ _ _ _ _ _ _ _ _ _ hMr.out | trace_state
end Go.Proofs.YtpmceapjnnkhjaaDoor
