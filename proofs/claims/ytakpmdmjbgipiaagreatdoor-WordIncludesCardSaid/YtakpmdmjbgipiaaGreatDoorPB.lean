/-
  Part PB of a proof.
-/
import Derived.Test.YtakpmdmjbgipiaaGreatDoorRows
import Derived.Laws.MakeOwn
import Derived.Test.YtakpmdmjbgipiaaGreatDoorPA
set_option maxHeartbeats 16000000
set_option maxRecDepth 100000
set_option linter.unusedVariables false
set_option linter.unusedSimpArgs false
namespace Go.Proofs.YtakpmdmjbgipiaaGreatDoor
def runW {S : Type} (δ : S → Nat → S) (s : S) (w : List Nat) : S := w.foldl δ s
def okW (L : Nat) (w : List Nat) : Prop := ∀ x ∈ w, x < L
theorem okW.nil (L : Nat) : okW L [] := fun _ h => absurd h (List.not_mem_nil)
theorem okW.app {L : Nat} {u v : List Nat} (h : okW L u) (k : okW L v) : okW L (u ++ v) := fun x hx => (List.mem_append.1 hx).elim (h x) (k x)
theorem okW.snoc {L : Nat} {u : List Nat} {x : Nat} (h : okW L u) (hx : x < L) : okW L (u ++ [x]) := h.app (by intro y hy; rw [List.mem_singleton.1 hy]; exact hx)
theorem okW.cons {L : Nat} {u : List Nat} {x : Nat} (hx : x < L) (h : okW L u) : okW L (x :: u) := by
 intro y hy
 rcases List.mem_cons.1 hy with rfl | hy
 ·exact hx
 ·exact h y hy
theorem runW_app {S : Type} (δ : S → Nat → S) (s : S) (u v : List Nat) : runW δ s (u ++ v) = runW δ (runW δ s u) v := List.foldl_append
theorem runW_snoc {S : Type} (δ : S → Nat → S) (s : S) (u : List Nat) (x : Nat) : runW δ s (u ++ [x]) = δ (runW δ s u) x := by rw [runW_app]; rfl
theorem runW_inv {S : Type} {δ : S → Nat → S} {L : Nat} {I : S → Prop} (hs : ∀ s x, x < L → I s → I (δ s x)) : ∀ (w : List Nat) (s : S), okW L w → I s → I (runW δ s w)
 | [], _, _, h => h
 | x :: w, s, hw, h => runW_inv hs w _ (fun y hy => hw y (List.mem_cons_of_mem _ hy)) (hs s x (hw x List.mem_cons_self) h)
inductive F2 {S T : Type} (R : S → T → Prop) : List S → List T → Prop
 | nil : F2 R [] []
 | cons {a b l m} : R a b → F2 R l m → F2 R (a :: l) (b :: m)
section
variable {S T : Type} {R : S → T → Prop}
theorem F2.length {l : List S} {m : List T} (h : F2 R l m) : l.length = m.length := by
 induction h with
 | nil => rfl
 | cons _ _ ih => simp [ih]
theorem F2.get {l : List S} {m : List T} (h : F2 R l m) : ∀ {i : Nat} {a : S} {b : T}, l[i]? = some a → m[i]? = some b → R a b := by
 induction h with
 | nil => intro i a b h; simp at h
 | cons h1 _ ih =>
  intro i a b ha hb
  cases i with
  | zero => simp at ha hb; subst ha hb; exact h1
  | succ i => simp at ha hb; exact ih ha hb
theorem F2.snoc {l : List S} {m : List T} (h : F2 R l m) {a : S} {b : T} (hab : R a b) : F2 R (l ++ [a]) (m ++ [b]) := by
 induction h with
 | nil => exact .cons hab .nil
 | cons h1 _ ih => exact .cons h1 ih
theorem F2.left {l : List S} {m : List T} (h : F2 R l m) {a : S} (ha : a ∈ l) : ∃ b, b ∈ m ∧ R a b := by
 induction h with
 | nil => cases ha
 | cons h1 _ ih =>
  rcases List.mem_cons.1 ha with rfl | ha
  ·exact ⟨_, List.mem_cons_self, h1⟩
  ·obtain ⟨b, hb, hR⟩ := ih ha
   exact ⟨b, List.mem_cons_of_mem _ hb, hR⟩
theorem F2.right {l : List S} {m : List T} (h : F2 R l m) {b : T} (hb : b ∈ m) : ∃ a, a ∈ l ∧ R a b := by
 induction h with
 | nil => cases hb
 | cons h1 _ ih =>
  rcases List.mem_cons.1 hb with rfl | hb
  ·exact ⟨_, List.mem_cons_self, h1⟩
  ·obtain ⟨a, ha, hR⟩ := ih hb
   exact ⟨a, List.mem_cons_of_mem _ ha, hR⟩
end
theorem fold_rel {A B C : Type} {Q : A → B → Prop} {f : A → C → A} {g : B → C → B} : ∀ (l : List C), (∀ x y c, c ∈ l → Q x y → Q (f x c) (g y c)) → ∀ {x : A} {y : B}, Q x y → Q (l.foldl f x) (l.foldl g y)
 | [], _, _, _, hq => hq
 | c :: l, hs, x, y, hq => fold_rel l (fun x y d hd => hs x y d (List.mem_cons_of_mem _ hd)) (hs x y c List.mem_cons_self hq)
theorem fold_inv {A C : Type} {I : A → Prop} {f : A → C → A} : ∀ (l : List C), (∀ x c, c ∈ l → I x → I (f x c)) → ∀ {x : A}, I x → I (l.foldl f x)
 | [], _, _, hq => hq
 | c :: l, hs, x, hq => fold_inv l (fun x d hd => hs x d (List.mem_cons_of_mem _ hd)) (hs x c List.mem_cons_self hq)
section
variable {S : Type} [DecidableEq S]
def meetL (l : List S) (a : S) : List S := if a ∈ l then l else l ++ [a]
theorem mem_meetL {l : List S} {a b : S} : b ∈ meetL l a ↔ b ∈ l ∨ b = a := by
 unfold meetL; split
 ·next h => exact ⟨.inl, fun h' => h'.elim id fun e => e ▸ h⟩
 ·simp
theorem nodup_meetL {l : List S} (h : l.Nodup) (a : S) : (meetL l a).Nodup := by
 unfold meetL; split
 ·exact h
 ·next ha => exact List.nodup_append.2 ⟨h, by simp, fun x hx y hy e => ha (by rw [← List.mem_singleton.1 hy, ← e]; exact hx)⟩
theorem prefix_meetL (l : List S) (a : S) : l <+: meetL l a := by
 unfold meetL; split
 ·exact List.prefix_refl _
 ·exact List.prefix_append _ _
theorem idxOf_prefix {l m : List S} (h : l <+: m) {a : S} (ha : a ∈ l) : m.idxOf a = l.idxOf a := by
 obtain ⟨t, rfl⟩ := h
 rw [List.idxOf_append, if_pos ha]
theorem prefix_get {A : Type} {l m : List A} (h : l <+: m) {i : Nat} {a : A} (hi : l[i]? = some a) : m[i]? = some a := by
 obtain ⟨t, rfl⟩ := h
 rw [List.getElem?_append_left (List.getElem?_eq_some_iff.1 hi).1]
 exact hi
theorem idxOf_get {l : List S} {a : S} (h : a ∈ l) : l[l.idxOf a]? = some a := by
 rw [List.getElem?_eq_getElem (List.idxOf_lt_length_of_mem h)]
 exact congrArg some (List.getElem_idxOf (List.idxOf_lt_length_of_mem h))
theorem nodup_idxOf {l : List S} (h : l.Nodup) {i : Nat} {a : S} (hi : l[i]? = some a) : l.idxOf a = i := by
 obtain ⟨hl, rfl⟩ := List.getElem?_eq_some_iff.1 hi
 exact h.idxOf_getElem i hl
variable (L : Nat) (δ : S → Nat → S) (s0 : S)
def rowL (s : S) (l : List S) (k : Nat) : List S := (List.range k).foldl (fun l x => meetL l (δ s x)) l
omit L s0 in
theorem rowL_succ (s : S) (l : List S) (k : Nat) : rowL δ s l (k + 1) = meetL (rowL δ s l k) (δ s k) := by simp [rowL, List.range_succ]
inductive Exp : Nat → List S → Prop
 | start : Exp 0 [s0]
 | row {i l s} : Exp i l → l[i]? = some s → Exp (i + 1) (rowL δ s l L)
def Disc (l : List S) : Prop := Exp L δ s0 l.length l
end
section
variable {S : Type} [DecidableEq S] {L : Nat} {δ : S → Nat → S} {s0 : S}
theorem rowL_pre (s : S) (l : List S) : ∀ k, l <+: rowL δ s l k
 | 0 => List.prefix_refl _
 | k + 1 => by rw [rowL_succ]; exact (rowL_pre s l k).trans (prefix_meetL _ _)
theorem rowL_mono (s : S) (l : List S) {j k : Nat} (h : j ≤ k) : rowL δ s l j <+: rowL δ s l k := by
 obtain ⟨d, rfl⟩ := Nat.exists_eq_add_of_le h
 induction d with
 | zero => exact List.prefix_refl _
 | succ d ih => rw [← Nat.add_assoc, rowL_succ]; exact (ih (by omega)).trans (prefix_meetL _ _)
theorem rowL_has (s : S) (l : List S) {k x : Nat} (hx : x < k) : δ s x ∈ rowL δ s l k :=
 (rowL_mono s l hx).subset (by rw [rowL_succ]; exact mem_meetL.2 (.inr rfl))
theorem rowL_mem {s : S} {l : List S} : ∀ {k : Nat} {a : S}, a ∈ rowL δ s l k → a ∈ l ∨ ∃ x, x < k ∧ a = δ s x
 | 0, _, h => .inl h
 | k + 1, a, h => by
  rw [rowL_succ] at h
  rcases mem_meetL.1 h with h | rfl
  ·rcases rowL_mem h with h | ⟨x, hx, e⟩
   ·exact .inl h
   ·exact .inr ⟨x, by omega, e⟩
  ·exact .inr ⟨k, by omega, rfl⟩
theorem rowL_nodup (s : S) {l : List S} (h : l.Nodup) : ∀ k, (rowL δ s l k).Nodup
 | 0 => h
 | k + 1 => by rw [rowL_succ]; exact nodup_meetL (rowL_nodup s h k) _
structure ExpI (L : Nat) (δ : S → Nat → S) (s0 : S) (i : Nat) (l : List S) : Prop where
 le : i ≤ l.length
 head : l[0]? = some s0
 nodup : l.Nodup
 reach : ∀ s ∈ l, ∃ w, okW L w ∧ runW δ s0 w = s
 closed : ∀ j s, j < i → l[j]? = some s → ∀ x, x < L → δ s x ∈ l
theorem Exp.inv {i : Nat} {l : List S} (h : Exp L δ s0 i l) : ExpI L δ s0 i l := by
 induction h with
 | start => exact ⟨by simp, rfl, by simp, fun s hs => ⟨[], okW.nil L, (List.mem_singleton.1 hs).symm⟩, fun j s hj => absurd hj (Nat.not_lt_zero _)⟩
 | @row i l s _ hs ih =>
  have hp := rowL_pre (δ := δ) s l L
  have hl := hp.length_le
  have hi := (List.getElem?_eq_some_iff.1 hs).1
  refine ⟨by omega, prefix_get hp ih.head, rowL_nodup s ih.nodup L, fun a ha => ?_, fun j t hj ht x hx => ?_⟩
  ·rcases rowL_mem ha with ha | ⟨x, hx, rfl⟩
   ·exact ih.reach a ha
   ·obtain ⟨w, hw, rfl⟩ := ih.reach s (List.mem_of_getElem? hs)
    exact ⟨w ++ [x], hw.snoc hx, runW_snoc _ _ _ _⟩
  ·rcases Nat.lt_or_ge j i with hji | hji
   ·obtain ⟨t', ht'⟩ : ∃ t', l[j]? = some t' := ⟨_, List.getElem?_eq_getElem (by omega)⟩
    have := (prefix_get hp ht').symm.trans ht
    injection this with this
    subst this
    exact hp.subset (ih.closed j t' hji ht' x hx)
   ·have hji : j = i := by omega
    subst hji
    have := (prefix_get hp hs).symm.trans ht
    injection this with this
    subst this
    exact rowL_has s l hx
theorem Exp.det {i : Nat} {l : List S} (h : Exp L δ s0 i l) : ∀ {m : List S}, Exp L δ s0 i m → l = m := by
 induction h with
 | start => intro m h'; cases h'; rfl
 | @row i l s _ hs ih =>
  intro m h'
  cases h' with
  | @row _ l' s' h1 hs' =>
   have e := ih h1
   subst e
   rw [hs] at hs'
   injection hs' with e
   subst e
   rfl
theorem Exp.pre {j : Nat} {m : List S} (h : Exp L δ s0 j m) : ∀ {i : Nat} {l : List S}, i ≤ j → Exp L δ s0 i l → l <+: m := by
  induction h with
  | start => intro i l hi hl; have : i = 0 := by omega
             subst this; cases hl; exact List.prefix_refl _
  | @row j m s h1 hs ih =>
    intro i l hi hl
    rcases Nat.lt_or_ge j i with h | h
    · have : i = j + 1 := by omega
      subst this
      rw [hl.det (Exp.row h1 hs)]
      exact List.prefix_refl _
    · exact (ih h hl).trans (rowL_pre _ _ _)
theorem Disc.top {m : List S} (h : Disc L δ s0 m) {i : Nat} {l : List S} (hl : Exp L δ s0 i l) : i ≤ m.length ∧ l <+: m := by
 have key : ∀ {i : Nat} {l : List S}, Exp L δ s0 i l → i ≤ m.length := by
  intro i l hl
  induction hl with
  | start => omega
  | @row i l s h1 hs ih =>
   have := (List.getElem?_eq_some_iff.1 (prefix_get (h.pre ih h1) hs)).1
   omega
 exact ⟨key hl, h.pre (key hl) hl⟩
theorem Disc.unique {l m : List S} (h : Disc L δ s0 l) (h' : Disc L δ s0 m) : l = m :=
 List.IsPrefix.eq_of_length_le (h'.top h).2 (h.top h').2.length_le
theorem Disc.closed {l : List S} (h : Disc L δ s0 l) {s : S} (hs : s ∈ l) {x : Nat} (hx : x < L) : δ s x ∈ l := by
 obtain ⟨j, hj, rfl⟩ := List.getElem_of_mem hs
 exact h.inv.closed j _ hj (List.getElem?_eq_getElem hj) x hx
theorem Disc.run {l : List S} (h : Disc L δ s0 l) {w : List Nat} (hw : okW L w) : runW δ s0 w ∈ l :=
 runW_inv (I := fun s => s ∈ l) (fun _ _ hx hs => h.closed hs hx) w s0 hw (List.mem_of_getElem? h.inv.head)
end
def OneOne {S T : Type} (R : S → T → Prop) : Prop := ∀ a b a' b', R a b → R a' b' → (a = a' ↔ b = b')
section
variable {S T : Type} [DecidableEq S] [DecidableEq T] {R : S → T → Prop} {L : Nat} {δ : S → Nat → S} {s0 : S} {δ' : T → Nat → T} {t0 : T}
theorem F2.meet (hR : OneOne R) {l : List S} {m : List T} (h : F2 R l m) {a : S} {b : T} (hab : R a b) : F2 R (meetL l a) (meetL m b) := by
 have hi : a ∈ l ↔ b ∈ m := by
  constructor
  ·intro ha
   obtain ⟨b', hb', h1⟩ := h.left ha
   rwa [(hR a b a b' hab h1).1 rfl]
  ·intro hb
   obtain ⟨a', ha', h1⟩ := h.right hb
   rwa [(hR a b a' b hab h1).2 rfl]
 unfold meetL
 by_cases ha : a ∈ l
 ·rw [if_pos ha, if_pos (hi.1 ha)]; exact h
 ·rw [if_neg ha, if_neg (fun hb => ha (hi.2 hb))]; exact h.snoc hab
theorem Exp.rel (hR : OneOne R) (h0 : R s0 t0) (hs : ∀ s t x, x < L → R s t → R (δ s x) (δ' t x)) {i : Nat} {l : List S} (h : Exp L δ s0 i l) : ∃ m, Exp L δ' t0 i m ∧ F2 R l m := by
 induction h with
 | start => exact ⟨[t0], .start, .cons h0 .nil⟩
 | @row i l s _ hs' ih =>
  obtain ⟨m, hm, hF⟩ := ih
  have hi := (List.getElem?_eq_some_iff.1 hs').1
  obtain ⟨t, ht⟩ : ∃ t, m[i]? = some t := ⟨_, List.getElem?_eq_getElem (by rw [← hF.length]; exact hi)⟩
  have hst := hF.get hs' ht
  exact ⟨_, .row hm ht, fold_rel (Q := fun a b => F2 R a b) _ (fun _ _ x hx h => h.meet hR (hs s t x (List.mem_range.1 hx) hst)) hF⟩
theorem Disc.rel (hR : OneOne R) (h0 : R s0 t0) (hs : ∀ s t x, x < L → R s t → R (δ s x) (δ' t x)) {l : List S} {m : List T} (h : Disc L δ s0 l) (h' : Disc L δ' t0 m) : F2 R l m := by
 obtain ⟨m', hm', hF⟩ := Exp.rel hR h0 hs h
 have hd : Disc L δ' t0 m' := by unfold Disc; rw [← hF.length]; exact hm'
 rw [h'.unique hd]
 exact hF
theorem Disc.image (hR : OneOne R) (h0 : R s0 t0) (hs : ∀ s t x, x < L → R s t → R (δ s x) (δ' t x)) {l : List S} (h : Disc L δ s0 l) : ∃ m, Disc L δ' t0 m ∧ F2 R l m := by
 obtain ⟨m', hm', hF⟩ := Exp.rel hR h0 hs h
 exact ⟨m', by unfold Disc; rw [← hF.length]; exact hm', hF⟩
end
section
variable {S : Type} [DecidableEq S] {L : Nat} {δ : S → Nat → S} {s0 : S}
def numW (δ : S → Nat → S) (l : List S) (i x : Nat) : Nat := match l[i]? with
 | some s => l.idxOf (δ s x)
 | none => 0
theorem Disc.num {l : List S} (h : Disc L δ s0 l) {w : List Nat} (hw : okW L w) : l[runW (numW δ l) 0 w]? = some (runW δ s0 w) := by
 have key : ∀ (w : List Nat) (i : Nat) (s : S), okW L w → l[i]? = some s → l[runW (numW δ l) i w]? = some (runW δ s w) := by
  intro w
  induction w with
  | nil => exact fun i s _ h => h
  | cons x w ih =>
   intro i s hw hs
   refine ih _ _ (fun y hy => hw y (List.mem_cons_of_mem _ hy)) ?_
   have hx := hw x List.mem_cons_self
   have : numW δ l i x = l.idxOf (δ s x) := by simp [numW, hs]
   rw [this]
   exact idxOf_get (h.closed (List.mem_of_getElem? hs) hx)
 exact key w 0 s0 hw h.inv.head
theorem Disc.lt {l : List S} (h : Disc L δ s0 l) {i x : Nat} (hi : i < l.length) (hx : x < L) : numW δ l i x < l.length := by
 have hs := List.getElem?_eq_getElem hi
 simp only [numW, hs]
 exact List.idxOf_lt_length_of_mem (h.closed (List.getElem_mem hi) hx)
omit [DecidableEq S] in
theorem F2.range {l : List S} (m : List Nat) (h : F2 (fun s i => l[i]? = some s) l m) (hn : l.Nodup) : m = List.range l.length := by
 apply List.ext_getElem?
 intro i
 rcases Nat.lt_or_ge i l.length with hi | hi
 ·have hm : i < m.length := by rw [← h.length]; exact hi
  have h1 := h.get (List.getElem?_eq_getElem hi) (List.getElem?_eq_getElem hm)
  obtain ⟨hk, he⟩ := List.getElem?_eq_some_iff.1 h1
  have := (List.getElem_inj hn).1 he
  rw [List.getElem?_eq_getElem hm, this, List.getElem?_range hi]
 ·rw [List.getElem?_eq_none (by rw [← h.length]; exact hi), List.getElem?_eq_none (by simpa using hi)]
theorem Disc.machine {l : List S} (h : Disc L δ s0 l) : Disc L (numW δ l) 0 (List.range l.length) := by
 obtain ⟨m, hm, hF⟩ := h.image (δ' := numW δ l) (t0 := 0) (R := fun s i => l[i]? = some s) (fun a b a' b' h1 h2 => ⟨fun e => by
  subst e
  rw [← nodup_idxOf h.inv.nodup h1, nodup_idxOf h.inv.nodup h2], fun e => by subst e; exact Option.some.inj (h1.symm.trans h2)⟩) h.inv.head (fun s i x hx hs => by
   have : numW δ l i x = l.idxOf (δ s x) := by simp [numW, hs]
   rw [this]
   exact idxOf_get (h.closed (List.mem_of_getElem? hs) hx))
 rw [hF.range m h.inv.nodup] at hm
 exact hm
end
structure Canon (L n : Nat) (nx : Nat → Nat → Nat) (acc : Nat → Bool) (Λ : List Nat → Bool) : Prop where
 lang : ∀ w, okW L w → acc (runW nx 0 w) = Λ w
 sep : ∀ u v, okW L u → okW L v → (∀ z, okW L z → Λ (u ++ z) = Λ (v ++ z)) → runW nx 0 u = runW nx 0 v
 ord : Disc L nx 0 (List.range n)
section
variable {L n : Nat} {nx : Nat → Nat → Nat} {acc : Nat → Bool} {Λ : List Nat → Bool}
theorem Canon.run_lt (h : Canon L n nx acc Λ) {w : List Nat} (hw : okW L w) : runW nx 0 w < n := List.mem_range.1 (h.ord.run hw)
theorem Canon.pos (h : Canon L n nx acc Λ) : 0 < n := h.run_lt (okW.nil L)
theorem Canon.lt (h : Canon L n nx acc Λ) {q x : Nat} (hq : q < n) (hx : x < L) : nx q x < n := List.mem_range.1 (h.ord.closed (List.mem_range.2 hq) hx)
theorem Canon.reach (h : Canon L n nx acc Λ) {q : Nat} (hq : q < n) : ∃ w, okW L w ∧ runW nx 0 w = q := h.ord.inv.reach q (List.mem_range.2 hq)
theorem Canon.same (h : Canon L n nx acc Λ) {u v : List Nat} (hu : okW L u) (hv : okW L v) (he : runW nx 0 u = runW nx 0 v) {z : List Nat} (hz : okW L z) : Λ (u ++ z) = Λ (v ++ z) := by
 rw [← h.lang _ (hu.app hz), ← h.lang _ (hv.app hz), runW_app, runW_app, he]
theorem Canon.unique {n' : Nat} {nx' : Nat → Nat → Nat} {acc' : Nat → Bool} {Λ' : List Nat → Bool} (h : Canon L n nx acc Λ) (h' : Canon L n' nx' acc' Λ') (hΛ : ∀ w, okW L w → Λ w = Λ' w) :
  n = n' ∧ (∀ q x, q < n → x < L → nx q x = nx' q x) ∧ ∀ q, q < n → acc q = acc' q := by
 have hR : OneOne (fun p q : Nat => ∃ w, okW L w ∧ runW nx 0 w = p ∧ runW nx' 0 w = q) := by
  rintro _ _ _ _ ⟨u, hu, rfl, rfl⟩ ⟨v, hv, rfl, rfl⟩
  exact ⟨fun e => h'.sep u v hu hv fun z hz => by rw [← hΛ _ (hu.app hz), ← hΛ _ (hv.app hz)]; exact h.same hu hv e hz,
   fun e => h.sep u v hu hv fun z hz => by rw [hΛ _ (hu.app hz), hΛ _ (hv.app hz)]; exact h'.same hu hv e hz⟩
 have hF := Disc.rel hR ⟨[], okW.nil L, rfl, rfl⟩ (by
  rintro _ _ x hx ⟨w, hw, rfl, rfl⟩
  exact ⟨w ++ [x], hw.snoc hx, runW_snoc _ _ _ _, runW_snoc _ _ _ _⟩) h.ord h'.ord
 have hn : n = n' := by simpa using hF.length
 subst hn
 have hd : ∀ p, p < n → ∃ w, okW L w ∧ runW nx 0 w = p ∧ runW nx' 0 w = p := fun p hp => hF.get (i := p) (by simp [hp]) (by simp [hp])
 have hs : ∀ w, okW L w → runW nx 0 w = runW nx' 0 w := fun w hw => by
  obtain ⟨u, hu, h1, h2⟩ := hd _ (h.run_lt hw)
  have := (hR _ _ _ _ ⟨w, hw, rfl, rfl⟩ ⟨u, hu, rfl, rfl⟩).1 h1.symm
  rw [this, h2]
 refine ⟨rfl, fun q x hq hx => ?_, fun q hq => ?_⟩
 ·obtain ⟨w, hw, h1, h2⟩ := hd q hq
  have := hs (w ++ [x]) (hw.snoc hx)
  rw [runW_snoc, runW_snoc, h1, h2] at this
  exact this
 ·obtain ⟨w, hw, h1, h2⟩ := hd q hq
  have := (h.lang w hw).trans ((hΛ w hw).trans (h'.lang w hw).symm)
  rwa [h1, h2] at this
end
end Go.Proofs.YtakpmdmjbgipiaaGreatDoor
namespace Go.Proofs.YtakpmdmjbgipiaaGreatDoor
theorem get_lt {α : Type} {l : List α} {i : Nat} (h : i < l.length) : ∃ x, l[i]? = some x := ⟨_, List.getElem?_eq_getElem h⟩
theorem lt_of_get {α : Type} {l : List α} {i : Nat} {x : α} (h : l[i]? = some x) : i < l.length := (List.getElem?_eq_some_iff.1 h).1
theorem getD_some {α : Type} {l : List α} {i : Nat} {x d : α} (h : l[i]? = some x) : l.getD i d = x := by rw [List.getD_eq_getElem?_getD, h]; rfl
theorem sub_len : ∀ (l m : List Nat), l.Nodup → (∀ a ∈ l, a ∈ m) → l.length ≤ m.length
 | [], _, _, _ => Nat.zero_le _
 | a :: l, m, hn, hs => by
  obtain ⟨m1, m2, rfl⟩ := List.append_of_mem (hs a List.mem_cons_self)
  have hn' := List.nodup_cons.1 hn
  have h1 := sub_len l (m1 ++ m2) hn'.2 (fun b hb => by
   have h2 := hs b (List.mem_cons_of_mem _ hb)
   have hne : b ≠ a := fun e => hn'.1 (e ▸ hb)
   simp only [List.mem_append, List.mem_cons] at h2 ⊢
   rcases h2 with h2 | h2 | h2
   ·exact .inl h2
   ·exact (hne h2).elim
   ·exact .inr h2)
  simp only [List.length_append, List.length_cons] at h1 ⊢
  omega
theorem nodup_cover : ∀ (l m : List Nat), l.Nodup → (∀ a ∈ l, a ∈ m) → m.length ≤ l.length → m.Nodup
 | [], m, _, _, hl => by
  have : m = [] := List.length_eq_zero_iff.1 (by simpa using hl)
  subst this
  exact List.nodup_nil
 | a :: l, m, hn, hs, hl => by
  obtain ⟨m1, m2, rfl⟩ := List.append_of_mem (hs a List.mem_cons_self)
  have hn' := List.nodup_cons.1 hn
  have hsub : ∀ b ∈ l, b ∈ m1 ++ m2 := fun b hb => by
   have h2 := hs b (List.mem_cons_of_mem _ hb)
   have hne : b ≠ a := fun e => hn'.1 (e ▸ hb)
   simp only [List.mem_append, List.mem_cons] at h2 ⊢
   rcases h2 with h2 | h2 | h2
   ·exact .inl h2
   ·exact (hne h2).elim
   ·exact .inr h2
  simp only [List.length_append, List.length_cons] at hl
  have h1 := nodup_cover l (m1 ++ m2) hn'.2 hsub (by simp; omega)
  refine List.perm_middle.nodup_iff.2 (List.nodup_cons.2 ⟨fun ha => ?_, h1⟩)
  have h2 := sub_len (a :: l) (m1 ++ m2) hn (fun b hb => by
   rcases List.mem_cons.1 hb with rfl | hb
   ·exact ha
   ·exact hsub b hb)
  simp at h2
  omega
def dnx (t : List (List Nat)) (q x : Nat) : Nat := (t.getD q []).getD x 0
def dac (ac : List Bool) (q : Nat) : Bool := ac.getD q false
structure DOK (L : Nat) (t : List (List Nat)) (ac : List Bool) : Prop where
 len : t.length = ac.length
 pos : 0 < ac.length
 row : ∀ r ∈ t, r.length = L ∧ ∀ y ∈ r, y < ac.length
theorem DOK.at {L : Nat} {t : List (List Nat)} {ac : List Bool} (h : DOK L t ac) {q x : Nat} (hq : q < ac.length) (hx : x < L) : ∃ r, t[q]? = some r ∧ r.length = L ∧ r[x]? = some (dnx t q x) ∧ dnx t q x < ac.length := by
 obtain ⟨r, hr⟩ := get_lt (l := t) (i := q) (by rw [h.len]; exact hq)
 obtain ⟨h1, h2⟩ := h.row r (List.mem_of_getElem? hr)
 obtain ⟨y, hy⟩ := get_lt (l := r) (i := x) (by omega)
 have : dnx t q x = y := by unfold dnx; rw [getD_some hr, getD_some hy]
 rw [this]
 exact ⟨r, hr, h1, hy, h2 y (List.mem_of_getElem? hy)⟩
theorem DOK.lt {L : Nat} {t : List (List Nat)} {ac : List Bool} (h : DOK L t ac) {q x : Nat} (hq : q < ac.length) (hx : x < L) : dnx t q x < ac.length := by
 obtain ⟨_, _, _, _, h⟩ := h.at hq hx; exact h
theorem DOK.run {L : Nat} {t : List (List Nat)} {ac : List Bool} (h : DOK L t ac) {w : List Nat} (hw : okW L w) : runW (dnx t) 0 w < ac.length :=
 runW_inv (I := fun q => q < ac.length) (fun _ _ hx hq => h.lt hq hx) w 0 hw h.pos
def EqW (L : Nat) (nx : Nat → Nat → Nat) (acc : Nat → Bool) : Nat → Nat → Nat → Prop
 | 0, p, q => acc p = acc q
 | r + 1, p, q => EqW L nx acc r p q ∧ ∀ x, x < L → EqW L nx acc r (nx p x) (nx q x)
section
variable {L n : Nat} {nx : Nat → Nat → Nat} {acc : Nat → Bool}
theorem EqW.of_words : ∀ (r : Nat) {p q : Nat}, (∀ z, okW L z → acc (runW nx p z) = acc (runW nx q z)) → EqW L nx acc r p q
 | 0, _, _, h => h [] (okW.nil L)
 | r + 1, _, _, h => ⟨EqW.of_words r h, fun x hx => EqW.of_words r fun z hz => h (x :: z) (hz.cons hx)⟩
theorem EqW.le {r : Nat} : ∀ (d : Nat) {i j : Nat}, EqW L nx acc (r + d) i j → EqW L nx acc r i j
 | 0, _, _, h => h
 | d + 1, _, _, h => EqW.le d h.1
theorem EqW.stable (hM : ∀ q x, q < n → x < L → nx q x < n) {r : Nat} (hs : ∀ i j, i < n → j < n → EqW L nx acc r i j → EqW L nx acc (r + 1) i j) : ∀ (d : Nat) {i j : Nat}, i < n → j < n → EqW L nx acc r i j → EqW L nx acc (r + d) i j
 | 0, _, _, _, _, h => h
 | d + 1, i, j, hi, hj, h => ⟨EqW.stable hM hs d hi hj h, fun x hx => EqW.stable hM hs d (hM i x hi hx) (hM j x hj hx) ((hs i j hi hj h).2 x hx)⟩
structure ClsAt (L n : Nat) (nx : Nat → Nat → Nat) (acc : Nat → Bool) (r : Nat) (cl : List Nat) (cnt : Nat) : Prop where
 len : cl.length = n
 iff : ∀ i j, i < n → j < n → (cl.getD i 0 = cl.getD j 0 ↔ EqW L nx acc r i j)
 mem : ∀ v, v ∈ cl ↔ v < cnt
variable {r cnt cnt' : Nat} {cl os : List Nat}
theorem ClsAt.le (h : ClsAt L n nx acc r cl cnt) : cnt ≤ n := by
 have := sub_len (List.range cnt) cl List.nodup_range (fun a ha => (h.mem a).2 (List.mem_range.1 ha))
 simpa [h.len] using this
theorem ClsAt.val (h : ClsAt L n nx acc r cl cnt) {i : Nat} (hi : i < n) : cl.getD i 0 < cnt := by
 obtain ⟨x, hx⟩ := get_lt (l := cl) (i := i) (by rw [h.len]; exact hi)
 rw [getD_some hx]
 exact (h.mem x).1 (List.mem_of_getElem? hx)
theorem ClsAt.back (h : ClsAt L n nx acc r cl cnt) (h' : ClsAt L n nx acc (r + 1) os cnt') {i : Nat} (hi : i < n) : cl.getD (os.idxOf (os.getD i 0)) 0 = cl.getD i 0 := by
 have hm := (h'.mem _).2 (h'.val hi)
 have hlt := List.idxOf_lt_length_of_mem hm
 rw [h'.len] at hlt
 have he : os.getD (os.idxOf (os.getD i 0)) 0 = os.getD i 0 := getD_some (idxOf_get hm)
 exact (h.iff _ _ hlt hi).2 ((h'.iff _ _ hlt hi).1 he).1
theorem ClsAt.grow (h : ClsAt L n nx acc r cl cnt) (h' : ClsAt L n nx acc (r + 1) os cnt') : cnt ≤ cnt' := by
 have := sub_len (List.range cnt) ((List.range cnt').map fun v => cl.getD (os.idxOf v) 0) List.nodup_range (fun u hu => by
  obtain ⟨i, hi⟩ := List.mem_iff_getElem?.1 ((h.mem u).2 (List.mem_range.1 hu))
  have hin : i < n := by have := lt_of_get hi; rwa [h.len] at this
  exact List.mem_map.2 ⟨os.getD i 0, List.mem_range.2 (h'.val hin), by rw [h.back h' hin, getD_some hi]⟩)
 simpa using this
theorem ClsAt.rest (h : ClsAt L n nx acc r cl cnt) (h' : ClsAt L n nx acc (r + 1) os cnt) {i j : Nat} (hi : i < n) (hj : j < n) (he : EqW L nx acc r i j) : EqW L nx acc (r + 1) i j := by
 have hnd := nodup_cover (List.range cnt) ((List.range cnt).map fun v => cl.getD (os.idxOf v) 0) List.nodup_range (fun u hu => by
  obtain ⟨i, hi⟩ := List.mem_iff_getElem?.1 ((h.mem u).2 (List.mem_range.1 hu))
  have hin : i < n := by have := lt_of_get hi; rwa [h.len] at this
  exact List.mem_map.2 ⟨os.getD i 0, List.mem_range.2 (h'.val hin), by rw [h.back h' hin, getD_some hi]⟩) (by simp)
 refine (h'.iff i j hi hj).1 ?_
 have hg : ∀ i, i < n → ((List.range cnt).map fun v => cl.getD (os.idxOf v) 0)[os.getD i 0]? = some (cl.getD i 0) := fun i hin => by
  rw [List.getElem?_map, List.getElem?_range (h'.val hin)]
  simp only [Option.map_some, h.back h' hin]
 have h1 := hg i hi
 have h2 := hg j hj
 rw [(h.iff i j hi hj).2 he] at h1
 exact (List.getElem?_inj (lt_of_get h1) hnd).1 (h1.trans h2.symm)
structure ClsW (L n : Nat) (nx : Nat → Nat → Nat) (acc : Nat → Bool) (cl : List Nat) : Prop where
 len : cl.length = n
 iff : ∀ i j, i < n → j < n → (cl.getD i 0 = cl.getD j 0 ↔ ∀ r, EqW L nx acc r i j)
 lt : ∀ i, i < n → cl.getD i 0 < n
theorem ClsAt.atRest (hM : ∀ q x, q < n → x < L → nx q x < n) (h : ClsAt L n nx acc r cl cnt) (h' : ClsAt L n nx acc (r + 1) os cnt) : ClsW L n nx acc cl := by
 have hst := fun d {i j} => EqW.stable hM (fun i j hi hj he => h.rest h' hi hj he) d (i := i) (j := j)
 refine ⟨h.len, fun i j hi hj => ?_, fun i hi => Nat.lt_of_lt_of_le (h.val hi) h.le⟩
 rw [h.iff i j hi hj]
 exact ⟨fun he k => EqW.le (r := k) r (by rw [Nat.add_comm]; exact hst k hi hj he), fun he => he r⟩
theorem ClsW.of_eq (h : ClsW L n nx acc cl) (hl : os.length = n) (hlt : ∀ i, i < n → os.getD i 0 < n) (he : ∀ i j, i < n → j < n → (os.getD i 0 = os.getD j 0 ↔ cl.getD i 0 = cl.getD j 0)) : ClsW L n nx acc os :=
 ⟨hl, fun i j hi hj => (he i j hi hj).trans (h.iff i j hi hj), hlt⟩
theorem ClsW.step (hM : ∀ q x, q < n → x < L → nx q x < n) (h : ClsW L n nx acc cl) {i j x : Nat} (hi : i < n) (hj : j < n) (hx : x < L) (he : cl.getD i 0 = cl.getD j 0) : cl.getD (nx i x) 0 = cl.getD (nx j x) 0 :=
 (h.iff _ _ (hM i x hi hx) (hM j x hj hx)).2 fun r => ((h.iff i j hi hj).1 he (r + 1)).2 x hx
theorem ClsW.accE (h : ClsW L n nx acc cl) {i j : Nat} (hi : i < n) (hj : j < n) (he : cl.getD i 0 = cl.getD j 0) : acc i = acc j := (h.iff i j hi hj).1 he 0
def clsNx (nx : Nat → Nat → Nat) (cl : List Nat) (k x : Nat) : Nat := cl.getD (nx (cl.idxOf k) x) 0
theorem ClsW.nxE (hM : ∀ q x, q < n → x < L → nx q x < n) (h : ClsW L n nx acc cl) {i x : Nat} (hi : i < n) (hx : x < L) : clsNx nx cl (cl.getD i 0) x = cl.getD (nx i x) 0 := by
 obtain ⟨v, hv⟩ := get_lt (l := cl) (i := i) (by rw [h.len]; exact hi)
 have hm := List.mem_of_getElem? hv
 have hlt := List.idxOf_lt_length_of_mem hm
 rw [h.len] at hlt
 unfold clsNx
 refine h.step hM (by rw [getD_some hv]; exact hlt) hi hx ?_
 rw [getD_some hv, getD_some (idxOf_get hm)]
theorem ClsW.run (hM : ∀ q x, q < n → x < L → nx q x < n) (hn : 0 < n) (h : ClsW L n nx acc cl) {w : List Nat} (hw : okW L w) : runW (clsNx nx cl) (cl.getD 0 0) w = cl.getD (runW nx 0 w) 0 := by
 have key : ∀ (w : List Nat) (q : Nat), okW L w → q < n → runW (clsNx nx cl) (cl.getD q 0) w = cl.getD (runW nx q w) 0 := by
  intro w
  induction w with
  | nil => exact fun _ _ _ => rfl
  | cons x w ih =>
   intro q hw hq
   have hx := hw x List.mem_cons_self
   show runW (clsNx nx cl) (clsNx nx cl (cl.getD q 0) x) w = _
   rw [h.nxE hM hq hx]
   exact ih _ (fun y hy => hw y (List.mem_cons_of_mem _ hy)) (hM q x hq hx)
 exact key w 0 hw hn
theorem ClsW.canon (hM : ∀ q x, q < n → x < L → nx q x < n) (hn : 0 < n) (h : ClsW L n nx acc cl) {st : List Nat} (hst : ∀ s ∈ st, s < n) (hD : Disc L (clsNx nx cl) (cl.getD 0 0) (st.map fun s => cl.getD s 0)) :
  Canon L st.length (numW (clsNx nx cl) (st.map fun s => cl.getD s 0)) (fun i => acc (st.getD i 0)) (fun w => acc (runW nx 0 w)) := by
 have hrun : ∀ w, okW L w → ∃ s, st[runW (numW (clsNx nx cl) (st.map fun s => cl.getD s 0)) 0 w]? = some s ∧ cl.getD s 0 = cl.getD (runW nx 0 w) 0 := fun w hw => by
  have h1 := hD.num hw
  rw [h.run hM hn hw, List.getElem?_map] at h1
  rcases he : st[runW (numW (clsNx nx cl) (st.map fun s => cl.getD s 0)) 0 w]? with _ | s
  ·rw [he] at h1; simp at h1
  ·rw [he] at h1; exact ⟨s, rfl, by simpa using h1⟩
 have hlt : ∀ w, okW L w → runW nx 0 w < n := fun w hw => runW_inv (I := fun q => q < n) (fun q x hx hq => hM q x hq hx) w 0 hw hn
 refine ⟨fun w hw => ?_, fun u v hu hv he => ?_, ?_⟩
 ·obtain ⟨s, hs, hc⟩ := hrun w hw
  show acc (st.getD _ 0) = _
  rw [getD_some hs]
  exact h.accE (hst s (List.mem_of_getElem? hs)) (hlt w hw) hc
 ·have h1 := (h.iff _ _ (hlt u hu) (hlt v hv)).2 fun r => EqW.of_words r fun z hz => by
   have := he z hz
   rwa [runW_app, runW_app] at this
  have h2 := hD.num hu
  have h3 := hD.num hv
  rw [h.run hM hn hu, h1] at h2
  rw [h.run hM hn hv] at h3
  exact (List.getElem?_inj (lt_of_get h2) hD.inv.nodup).1 (h2.trans h3.symm)
 ·have := hD.machine
  rwa [List.length_map] at this
end
end Go.Proofs.YtakpmdmjbgipiaaGreatDoor
namespace Go.Proofs.YtakpmdmjbgipiaaGreatDoor
structure Edg where
 frm : Int
 letter : Int
 to : Int
structure WA where
 letters : Int
 states : Int
 start : List Int
 accept : List Int
 edges : List Edg
deriving instance DecidableEq for Edg
deriving instance DecidableEq for WA
def inN (n x : Int) : Bool := decide (0 ≤ x) && decide (x < n)
theorem inN_iff {n x : Int} : inN n x = true ↔ 0 ≤ x ∧ x < n := by simp [inN]
theorem inN_nat {n x : Int} (h : inN n x = true) : ∃ k : Nat, x = (k : Int) ∧ k < n.toNat := ⟨x.toNat, by have := inN_iff.1 h; omega, by have := inN_iff.1 h; omega⟩
structure WA.In (a : WA) : Prop where
 start : ∀ x ∈ a.start, inN a.states x = true
 accept : ∀ x ∈ a.accept, inN a.states x = true
 edge : ∀ e ∈ a.edges, inN a.states e.frm = true ∧ inN a.letters e.letter = true ∧ inN a.states e.to = true
def WA.edgeB (a : WA) (e : Edg) : Bool := inN a.states e.frm && inN a.states e.to && inN a.letters e.letter
def WA.ok (a : WA) : Bool := decide (1 ≤ a.letters) && decide (a.letters ≤ 8) && decide (0 ≤ a.states) && decide (a.states ≤ 400) && a.start.all (inN a.states) && a.accept.all (inN a.states) && a.edges.all a.edgeB
theorem WA.ok_iff {a : WA} : a.ok = true ↔ (1 ≤ a.letters ∧ a.letters ≤ 8 ∧ 0 ≤ a.states ∧ a.states ≤ 400) ∧ a.In := by
 simp only [WA.ok, Bool.and_eq_true, decide_eq_true_eq, List.all_eq_true, WA.edgeB]
 constructor
 ·rintro ⟨⟨⟨⟨⟨⟨h1, h2⟩, h3⟩, h4⟩, h5⟩, h6⟩, h7⟩
  exact ⟨⟨h1, h2, h3, h4⟩, h5, h6, fun e he => ⟨(h7 e he).1.1, (h7 e he).2, (h7 e he).1.2⟩⟩
 ·rintro ⟨⟨h1, h2, h3, h4⟩, h5, h6, h7⟩
  exact ⟨⟨⟨⟨⟨⟨h1, h2⟩, h3⟩, h4⟩, h5⟩, h6⟩, fun e he => ⟨⟨(h7 e he).1, (h7 e he).2.2⟩, (h7 e he).2.1⟩⟩
def WA.L (a : WA) : Nat := a.letters.toNat
def WA.n (a : WA) : Nat := a.states.toNat
def marksM (n : Nat) (l : List Int) : List Bool := (List.range n).map fun q : Nat => decide ((q : Int) ∈ l)
theorem marksM_len (n : Nat) (l : List Int) : (marksM n l).length = n := by simp [marksM]
theorem marksM_get {n : Nat} {l : List Int} {q : Nat} (h : q < n) : (marksM n l)[q]? = some (decide ((q : Int) ∈ l)) := by simp [marksM, h]
def setL (m : List Bool) : List Int := ((List.range m.length).filter fun q => m.getD q false).map fun q : Nat => (q : Int)
theorem mem_setL {m : List Bool} {x : Int} : x ∈ setL m ↔ ∃ q : Nat, x = (q : Int) ∧ m[q]? = some true := by
 simp only [setL, List.mem_map, List.mem_filter, List.mem_range]
 constructor
 ·rintro ⟨q, ⟨h1, h2⟩, rfl⟩
  exact ⟨q, rfl, by rw [List.getD_eq_getElem?_getD, List.getElem?_eq_getElem h1] at h2; rw [List.getElem?_eq_getElem h1]; exact congrArg some h2⟩
 ·rintro ⟨q, rfl, h⟩
  exact ⟨q, ⟨lt_of_get h, getD_some h⟩, rfl⟩
def Asc (l : List Int) : Prop := l.Pairwise (· < ·)
theorem asc_range (n : Nat) (p : Nat → Bool) : Asc (((List.range n).filter p).map fun q : Nat => (q : Int)) := by
 refine List.pairwise_map.2 (List.Pairwise.filter _ ?_)
 exact (List.pairwise_lt_range).imp fun h => by omega
theorem asc_setL (m : List Bool) : Asc (setL m) := asc_range _ _
theorem asc_unique : ∀ {l k : List Int}, Asc l → Asc k → (∀ x, x ∈ l ↔ x ∈ k) → l = k
 | [], [], _, _, _ => rfl
 | [], y :: k, _, _, h => absurd ((h y).2 List.mem_cons_self) List.not_mem_nil
 | x :: l, [], _, _, h => absurd ((h x).1 List.mem_cons_self) List.not_mem_nil
 | x :: l, y :: k, hl, hk, h => by
  obtain ⟨h1, h2⟩ := List.pairwise_cons.1 hl
  obtain ⟨k1, k2⟩ := List.pairwise_cons.1 hk
  have hxy : x = y := by
   rcases List.mem_cons.1 ((h x).1 List.mem_cons_self) with e | e
   ·exact e
   ·rcases List.mem_cons.1 ((h y).2 List.mem_cons_self) with e' | e'
    ·exact e'.symm
    ·have := h1 y e'; have := k1 x e; omega
  subst hxy
  rw [asc_unique h2 k2 fun z => ?_]
  have hz := h z
  simp only [List.mem_cons] at hz
  constructor
  ·intro hm
   rcases hz.1 (.inr hm) with rfl | e
   ·have := h1 z hm; omega
   ·exact e
  ·intro hm
   rcases hz.2 (.inr hm) with rfl | e
   ·have := k1 z hm; omega
   ·exact e
theorem setL_inj {m k : List Bool} (hl : m.length = k.length) (h : setL m = setL k) : m = k := by
 apply List.ext_getElem?
 intro i
 rcases Nat.lt_or_ge i m.length with hi | hi
 ·obtain ⟨b, hb⟩ := get_lt hi
  obtain ⟨c, hc⟩ := get_lt (l := k) (i := i) (by omega)
  have := (mem_setL (m := m) (x := i)).symm.trans ((by rw [h] : (i : Int) ∈ setL m ↔ (i : Int) ∈ setL k).trans mem_setL)
  have e : ∀ (l : List Bool) (b : Bool), l[i]? = some b → ((∃ q : Nat, (i : Int) = (q : Int) ∧ l[q]? = some true) ↔ b = true) := fun l b hb => by
   constructor
   ·rintro ⟨q, hq, h⟩
    have : q = i := by omega
    subst this
    exact (Option.some.inj (h.symm.trans hb)).symm
   ·rintro rfl
    exact ⟨i, rfl, hb⟩
  rw [e m b hb, e k c hc] at this
  rw [hb, hc]
  cases b <;> cases c <;> simp_all
 ·rw [List.getElem?_eq_none hi, List.getElem?_eq_none (by omega)]
structure NF where
 L : Nat
 nx : List (List (List Int))
 start : List Int
 acc : List Bool
def NF.n (a : NF) : Nat := a.nx.length
def NF.to (a : NF) (s x : Nat) : List Int := (a.nx.getD s []).getD x []
structure NF.OK (a : NF) : Prop where
 acc : a.acc.length = a.n
 row : ∀ r ∈ a.nx, r.length = a.L
 to : ∀ r ∈ a.nx, ∀ l ∈ r, ∀ x ∈ l, inN a.n x = true
 start : ∀ x ∈ a.start, inN a.n x = true
def NF.after (a : NF) (m : List Bool) (x : Nat) : List Bool := (List.range a.n).map fun q : Nat => (List.range a.n).any fun s => m.getD s false && decide ((q : Int) ∈ a.to s x)
def NF.st (a : NF) : List Bool := marksM a.n a.start
def NF.has (a : NF) (m : List Bool) : Bool := (List.range a.n).any fun s => m.getD s false && a.acc.getD s false
def NF.lang (a : NF) (w : List Nat) : Bool := a.has (runW a.after a.st w)
theorem NF.after_len (a : NF) (m : List Bool) (x : Nat) : (a.after m x).length = a.n := by simp [NF.after]
theorem NF.st_len (a : NF) : a.st.length = a.n := marksM_len _ _
theorem NF.run_len (a : NF) {L : Nat} {w : List Nat} (hw : okW L w) : (runW a.after a.st w).length = a.n :=
 runW_inv (I := fun m => m.length = a.n) (fun m x _ _ => a.after_len m x) w _ hw a.st_len
def NF.Large (a : NF) (k : Nat) : Prop := ∃ i l, Exp a.L a.after a.st i l ∧ k < l.length
theorem NF.not_large {a : NF} {k : Nat} {l : List (List Bool)} (h : Disc a.L a.after a.st l) (hl : l.length ≤ k) : ¬ a.Large k := by
 rintro ⟨i, m, hm, hk⟩
 have := (h.top hm).2.length_le
 omega
def WA.to (a : WA) (s x : Nat) : List Int := (a.edges.filter fun e => decide (e.frm = (s : Int)) && decide (e.letter = (x : Int))).map (·.to)
def WA.nf (a : WA) : NF := ⟨a.L, (List.range a.n).map fun s => (List.range a.L).map fun x => a.to s x, a.start, marksM a.n a.accept⟩
theorem WA.nf_n (a : WA) : a.nf.n = a.n := by simp [NF.n, WA.nf]
theorem WA.nf_to (a : WA) {s x : Nat} (hs : s < a.n) (hx : x < a.L) : a.nf.to s x = a.to s x := by
 simp [NF.to, WA.nf, List.getD_eq_getElem?_getD, hs, hx]
theorem WA.mem_to {a : WA} {s x : Nat} {y : Int} : y ∈ a.to s x ↔ ∃ e ∈ a.edges, e.frm = (s : Int) ∧ e.letter = (x : Int) ∧ e.to = y := by
 simp [WA.to, and_assoc]
theorem WA.nf_ok {a : WA} (h : a.In) : a.nf.OK := by
 have hc : ∀ x : Int, inN a.states x = true → inN a.nf.n x = true := fun x hx => by
  rw [a.nf_n, inN_iff]; rw [inN_iff] at hx; unfold WA.n; omega
 refine ⟨by rw [a.nf_n]; exact marksM_len _ _, fun r hr => ?_, fun r hr l hl x hx => ?_, fun x hx => hc x (h.start x hx)⟩
 ·obtain ⟨s, _, rfl⟩ := List.mem_map.1 hr
  simp [WA.nf]
 ·obtain ⟨s, _, rfl⟩ := List.mem_map.1 hr
  obtain ⟨y, _, rfl⟩ := List.mem_map.1 hl
  obtain ⟨e, he, _, _, rfl⟩ := WA.mem_to.1 hx
  exact hc _ (h.edge e he).2.2
def WA.lang (a : WA) (w : List Nat) : Bool := a.nf.lang w
def plainW (L : Nat) (t : List (List Nat)) (ac : List Bool) : WA :=
 ⟨(L : Int), (ac.length : Int), [0], setL ac, (List.range ac.length).flatMap fun q : Nat => (List.range L).map fun x : Nat => ⟨(q : Int), (x : Int), (dnx t q x : Int)⟩⟩
theorem plainW_congr {L : Nat} {t t' : List (List Nat)} {ac ac' : List Bool} (hn : ac.length = ac'.length) (ht : ∀ q x, q < ac.length → x < L → dnx t q x = dnx t' q x) (ha : ∀ q, q < ac.length → dac ac q = dac ac' q) : plainW L t ac = plainW L t' ac' := by
 have e : ac = ac' := by
  apply List.ext_getElem?
  intro i
  rcases Nat.lt_or_ge i ac.length with hi | hi
  ·obtain ⟨b, hb⟩ := get_lt hi
   obtain ⟨c, hc⟩ := get_lt (l := ac') (i := i) (by omega)
   have := ha i hi
   unfold dac at this
   rw [getD_some hb, getD_some hc] at this
   rw [hb, hc, this]
  ·rw [List.getElem?_eq_none hi, List.getElem?_eq_none (by omega)]
 subst e
 unfold plainW
 congr 1
 simp only [List.flatMap]
 congr 1
 refine List.map_congr_left fun q hq => List.map_congr_left fun x hx => ?_
 rw [ht q x (List.mem_range.1 hq) (List.mem_range.1 hx)]
theorem plain_same {L : Nat} {t t' : List (List Nat)} {ac ac' : List Bool} {Λ Λ' : List Nat → Bool} (h : Canon L ac.length (dnx t) (dac ac) Λ) (h' : Canon L ac'.length (dnx t') (dac ac') Λ') (hΛ : ∀ w, okW L w → Λ w = Λ' w) : plainW L t ac = plainW L t' ac' := by
 obtain ⟨h1, h2, h3⟩ := h.unique h' hΛ
 exact plainW_congr h1 h2 h3
end Go.Proofs.YtakpmdmjbgipiaaGreatDoor
namespace Go.Proofs.YtakpmdmjbgipiaaGreatDoor
def NF.B (a : NF) : Nat → Nat → Bool
 | 0, q => a.acc.getD q false
 | d + 1, q => (List.range a.n).any fun y => (List.range a.L).any (fun x => decide ((y : Int) ∈ a.to q x)) && a.B d y
theorem NF.B_succ {a : NF} {d q : Nat} : a.B (d + 1) q = true ↔ ∃ x y, x < a.L ∧ y < a.n ∧ (y : Int) ∈ a.to q x ∧ a.B d y = true := by
 simp only [NF.B, List.any_eq_true, List.mem_range, Bool.and_eq_true, decide_eq_true_eq]
 constructor
 ·rintro ⟨y, hy, ⟨x, hx, h⟩, hB⟩
  exact ⟨x, y, hx, hy, h, hB⟩
 ·rintro ⟨x, y, hx, hy, h, hB⟩
  exact ⟨y, hy, ⟨x, hx, h⟩, hB⟩
def NF.Dist (a : NF) (q k : Nat) : Prop := a.B k q = true ∧ ∀ e, e < k → a.B e q = false
theorem NF.Dist.unique {a : NF} {q k j : Nat} (h : a.Dist q k) (h' : a.Dist q j) : k = j := by
 rcases Nat.lt_trichotomy k j with hl | hl | hl
 ·have := h'.2 k hl; rw [h.1] at this; exact absurd this (by simp)
 ·exact hl
 ·have := h.2 j hl; rw [h'.1] at this; exact absurd this (by simp)
theorem NF.dist_of {a : NF} {q : Nat} : ∀ (k : Nat), a.B k q = true → ∃ j, j ≤ k ∧ a.Dist q j := by
 intro k
 induction k using Nat.strongRecOn with
 | _ k ih =>
  intro h
  by_cases hex : ∃ e, e < k ∧ a.B e q = true
  ·obtain ⟨e, he, hB⟩ := hex
   obtain ⟨j, hj, hd⟩ := ih e he hB
   exact ⟨j, by omega, hd⟩
  ·refine ⟨k, Nat.le_refl _, h, fun e he => ?_⟩
   rcases hb : a.B e q with _ | _
   ·rfl
   ·exact absurd ⟨e, he, hb⟩ hex
theorem NF.Dist.next {a : NF} {q k : Nat} (h : a.Dist q (k + 1)) : ∃ x y, x < a.L ∧ y < a.n ∧ (y : Int) ∈ a.to q x ∧ a.Dist y k := by
 obtain ⟨x, y, hx, hy, hm, hB⟩ := NF.B_succ.1 h.1
 refine ⟨x, y, hx, hy, hm, hB, fun e he => ?_⟩
 rcases hb : a.B e y with _ | _
 ·rfl
 ·have := h.2 (e + 1) (by omega)
  rw [NF.B_succ.2 ⟨x, y, hx, hy, hm, hb⟩] at this
  exact absurd this (by simp)
theorem NF.Dist.lt {a : NF} {q k : Nat} (hq : q < a.n) (h : a.Dist q k) : k < a.n := by
 have key : ∀ (k q : Nat), q < a.n → a.Dist q k → ∃ l : List Nat, l.length = k + 1 ∧ l.Nodup ∧ (∀ s ∈ l, s < a.n) ∧ ∀ s ∈ l, ∃ j, j ≤ k ∧ a.Dist s j := by
  intro k
  induction k with
  | zero => exact fun q hq h => ⟨[q], rfl, by simp, by simpa using hq, fun s hs => ⟨0, Nat.le_refl _, by rw [List.mem_singleton.1 hs]; exact h⟩⟩
  | succ k ih =>
   intro q hq h
   obtain ⟨x, y, _, hy, _, hd⟩ := h.next
   obtain ⟨l, h1, h2, h3, h4⟩ := ih y hy hd
   refine ⟨q :: l, by simp [h1], List.nodup_cons.2 ⟨fun hm => ?_, h2⟩, fun s hs => ?_, fun s hs => ?_⟩
   ·obtain ⟨j, hj, hd'⟩ := h4 q hm
    have := h.unique hd'
    omega
   ·rcases List.mem_cons.1 hs with rfl | hs
    ·exact hq
    ·exact h3 s hs
   ·rcases List.mem_cons.1 hs with rfl | hs
    ·exact ⟨k + 1, Nat.le_refl _, h⟩
    ·obtain ⟨j, hj, hd'⟩ := h4 s hs
     exact ⟨j, by omega, hd'⟩
 obtain ⟨l, h1, h2, h3, _⟩ := key k q hq h
 have := sub_len l (List.range a.n) h2 fun s hs => List.mem_range.2 (h3 s hs)
 simp at this
 omega
structure NF.Far (a : NF) (far : List Int) : Prop where
 len : far.length = a.n
 at_ : ∀ q, q < a.n → (far.getD q (-1) = -1 ∧ ∀ d, a.B d q = false) ∨ ∃ k : Nat, far.getD q (-1) = (k : Int) ∧ a.Dist q k
theorem NF.Far.iff {a : NF} {far : List Int} (h : a.Far far) {q : Nat} (hq : q < a.n) (k : Nat) : far.getD q (-1) = (k : Int) ↔ a.Dist q k := by
 rcases h.at_ q hq with ⟨h1, h2⟩ | ⟨j, h1, h2⟩
 ·rw [h1]
  exact ⟨fun e => by omega, fun hd => by have := h2 k; rw [hd.1] at this; exact absurd this (by simp)⟩
 ·rw [h1]
  constructor
  ·intro e
   have : j = k := by omega
   subst this
   exact h2
  ·intro hd
   rw [h2.unique hd]
theorem NF.Far.unique {a : NF} {far far' : List Int} (h : a.Far far) (h' : a.Far far') : far = far' := by
 apply List.ext_getElem?
 intro q
 rcases Nat.lt_or_ge q a.n with hq | hq
 ·obtain ⟨x, hx⟩ := get_lt (l := far) (i := q) (by rw [h.len]; exact hq)
  obtain ⟨y, hy⟩ := get_lt (l := far') (i := q) (by rw [h'.len]; exact hq)
  have e1 : far.getD q (-1) = x := getD_some hx
  have e2 : far'.getD q (-1) = y := getD_some hy
  rw [hx, hy]
  congr 1
  rcases h.at_ q hq with ⟨h1, h2⟩ | ⟨j, h1, h2⟩
  ·rcases h'.at_ q hq with ⟨k1, _⟩ | ⟨k, k1, k2⟩
   ·omega
   ·have := h2 k; rw [k2.1] at this; exact absurd this (by simp)
  ·have := (h'.iff hq j).2 h2
   omega
 ·rw [List.getElem?_eq_none (by rw [h.len]; exact hq), List.getElem?_eq_none (by rw [h'.len]; exact hq)]
def cutM (far : List Int) (m : List Bool) (k : Nat) : List Bool := (List.range m.length).map fun q => m.getD q false && decide (far.getD q (-1) = (k : Int))
theorem cutM_get {far : List Int} {m : List Bool} {k q : Nat} : (cutM far m k).getD q false = true ↔ m.getD q false = true ∧ far.getD q (-1) = (k : Int) := by
 unfold cutM
 rw [List.getD_eq_getElem?_getD]
 rcases Nat.lt_or_ge q m.length with hq | hq
 ·simp [hq]
 ·rw [List.getElem?_eq_none (by simpa using hq), List.getD_eq_getElem?_getD (l := m), List.getElem?_eq_none hq]
  simp
def someM (m : List Bool) : Bool := m.any id
theorem some_iff {m : List Bool} : someM m = true ↔ ∃ q, q < m.length ∧ m.getD q false = true := by
 unfold someM
 rw [List.any_eq_true]
 constructor
 ·rintro ⟨b, hb, h⟩
  obtain ⟨q, hq⟩ := List.mem_iff_getElem?.1 hb
  exact ⟨q, lt_of_get hq, by rw [getD_some hq]; exact h⟩
 ·rintro ⟨q, hq, h⟩
  obtain ⟨b, hb⟩ := get_lt hq
  rw [getD_some hb] at h
  exact ⟨b, List.mem_of_getElem? hb, h⟩
def NF.pick (a : NF) (far : List Int) (m : List Bool) (k : Nat) : Option Nat := (List.range a.L).find? fun x => someM (cutM far (a.after m x) k)
def NF.shortW (a : NF) (far : List Int) : Nat → List Bool → List Nat
 | 0, _ => []
 | k + 1, m => match a.pick far m k with
  | some x => x :: a.shortW far k (cutM far (a.after m x) k)
  | none => []
theorem NF.after_get {a : NF} {m : List Bool} {x y : Nat} (hy : y < a.n) : (a.after m x).getD y false = true ↔ ∃ s, s < a.n ∧ m.getD s false = true ∧ (y : Int) ∈ a.to s x := by
 unfold NF.after
 rw [List.getD_eq_getElem?_getD]
 simp [hy]
theorem NF.after_mono {a : NF} {m m' : List Bool} (h : ∀ q, m.getD q false = true → m'.getD q false = true) (x q : Nat) (hq : (a.after m x).getD q false = true) : (a.after m' x).getD q false = true := by
 rcases Nat.lt_or_ge q a.n with hn | hn
 ·obtain ⟨s, h1, h2, h3⟩ := (NF.after_get hn).1 hq
  exact (NF.after_get hn).2 ⟨s, h1, h s h2, h3⟩
 ·rw [List.getD_eq_getElem?_getD, List.getElem?_eq_none (by rw [a.after_len]; exact hn)] at hq
  simp at hq
theorem NF.run_mono {a : NF} : ∀ (w : List Nat) {m m' : List Bool}, (∀ q, m.getD q false = true → m'.getD q false = true) → ∀ q, (runW a.after m w).getD q false = true → (runW a.after m' w).getD q false = true
 | [], _, _, h => h
 | x :: w, _, _, h => NF.run_mono w (NF.after_mono h x)
theorem NF.has_iff {a : NF} {m : List Bool} : a.has m = true ↔ ∃ s, s < a.n ∧ m.getD s false = true ∧ a.acc.getD s false = true := by
 simp [NF.has]
theorem NF.has_mono {a : NF} {m m' : List Bool} (h : ∀ q, m.getD q false = true → m'.getD q false = true) (hm : a.has m = true) : a.has m' = true := by
 obtain ⟨s, h1, h2, h3⟩ := NF.has_iff.1 hm
 exact NF.has_iff.2 ⟨s, h1, h s h2, h3⟩
theorem NF.B_of {a : NF} : ∀ (w : List Nat) {m : List Bool}, okW a.L w → a.has (runW a.after m w) = true → ∃ s, s < a.n ∧ m.getD s false = true ∧ a.B w.length s = true
 | [], _, _, h => by
  obtain ⟨s, h1, h2, h3⟩ := NF.has_iff.1 h
  exact ⟨s, h1, h2, h3⟩
 | x :: w, m, hw, h => by
  obtain ⟨y, hy, hm, hB⟩ := NF.B_of w (m := a.after m x) (fun z hz => hw z (List.mem_cons_of_mem _ hz)) h
  obtain ⟨s, hs, h1, h2⟩ := (NF.after_get hy).1 hm
  exact ⟨s, hs, h1, NF.B_succ.2 ⟨x, y, hw x List.mem_cons_self, hy, h2, hB⟩⟩
structure NF.Lev (a : NF) (far : List Int) (m : List Bool) (k : Nat) : Prop where
 len : m.length = a.n
 ne : ∃ q, q < a.n ∧ m.getD q false = true
 all : ∀ q, q < a.n → m.getD q false = true → a.Dist q k
theorem NF.Lev.cut {a : NF} {far : List Int} (hF : a.Far far) {m : List Bool} {k : Nat} (hl : m.length = a.n) (h : someM (cutM far m k) = true) : a.Lev far (cutM far m k) k := by
 obtain ⟨q, hq, hm⟩ := some_iff.1 h
 have hlen : (cutM far m k).length = a.n := by simp [cutM, hl]
 exact ⟨hlen, ⟨q, by omega, hm⟩, fun q hq hm => (hF.iff hq k).1 (cutM_get.1 hm).2⟩
theorem NF.Lev.pick {a : NF} {far : List Int} (hF : a.Far far) {m : List Bool} {k : Nat} (h : a.Lev far m (k + 1)) : ∃ x, a.pick far m k = some x ∧ x < a.L ∧ a.Lev far (cutM far (a.after m x) k) k ∧ ∀ y, y < x → someM (cutM far (a.after m y) k) = false := by
 obtain ⟨q, hq, hm⟩ := h.ne
 obtain ⟨x, y, hx, hy, hto, hd⟩ := (h.all q hq hm).next
 have hex : someM (cutM far (a.after m x) k) = true := some_iff.2 ⟨y, by simp [cutM, a.after_len, hy], cutM_get.2 ⟨(NF.after_get hy).2 ⟨q, hq, hm, hto⟩, (hF.iff hy k).2 hd⟩⟩
 rcases hp : a.pick far m k with _ | z
 ·have := List.find?_eq_none.1 hp x (List.mem_range.2 hx)
  rw [hex] at this
  exact absurd rfl this
 ·have h1 := List.find?_some hp
  have h2 := List.mem_of_find?_eq_some hp
  refine ⟨z, rfl, List.mem_range.1 h2, NF.Lev.cut hF (a.after_len _ _) h1, fun y hy => ?_⟩
  obtain ⟨l1, l2, he, hb⟩ := (List.find?_eq_some_iff_append.1 hp).2
  have hlen : l1.length = z := by
   have h3 : (List.range a.L)[l1.length]? = some z := by rw [he]; simp
   have h4 := lt_of_get h3
   rw [List.getElem?_range (by simpa using h4)] at h3
   exact Option.some.inj h3
  have hym : y ∈ l1 := by
   have h3 : (List.range a.L)[y]? = some y := by
    rw [List.getElem?_range]
    have := List.mem_range.1 h2; omega
   rw [he, List.getElem?_append_left (by omega)] at h3
   exact List.mem_of_getElem? h3
  have := hb y hym
  simpa using this
theorem NF.shortW_spec {a : NF} {far : List Int} (hF : a.Far far) : ∀ (k : Nat) (m : List Bool), a.Lev far m k → okW a.L (a.shortW far k m) ∧ (a.shortW far k m).length = k ∧ a.has (runW a.after m (a.shortW far k m)) = true := by
 intro k
 induction k with
 | zero =>
  intro m h
  obtain ⟨q, hq, hm⟩ := h.ne
  exact ⟨okW.nil _, rfl, NF.has_iff.2 ⟨q, hq, hm, (h.all q hq hm).1⟩⟩
 | succ k ih =>
  intro m h
  obtain ⟨x, hp, hx, hL, _⟩ := h.pick hF
  obtain ⟨h1, h2, h3⟩ := ih _ hL
  have e : a.shortW far (k + 1) m = x :: a.shortW far k (cutM far (a.after m x) k) := by rw [NF.shortW, hp]
  rw [e]
  generalize a.shortW far k (cutM far (a.after m x) k) = w at *
  refine ⟨h1.cons hx, by rw [List.length_cons, h2], ?_⟩
  show a.has (runW a.after (a.after m x) w) = true
  exact NF.has_mono (NF.run_mono w (m' := a.after m x) fun q hq => (cutM_get.1 hq).1) h3
theorem NF.single {a : NF} : ∀ (w : List Nat) {m : List Bool}, a.has (runW a.after m w) = true → ∃ s, s < a.n ∧ m.getD s false = true ∧ ∀ m' : List Bool, m'.getD s false = true → a.has (runW a.after m' w) = true
 | [], m, h => by
  obtain ⟨s, h1, h2, h3⟩ := NF.has_iff.1 h
  exact ⟨s, h1, h2, fun m' hm => NF.has_iff.2 ⟨s, h1, hm, h3⟩⟩
 | x :: w, m, h => by
  obtain ⟨y, hy, hm, hall⟩ := NF.single w (m := a.after m x) h
  obtain ⟨s, hs, h1, h2⟩ := (NF.after_get hy).1 hm
  exact ⟨s, hs, h1, fun m' hm' => hall _ ((NF.after_get hy).2 ⟨s, hs, hm', h2⟩)⟩
def lexLe : List Nat → List Nat → Prop
 | [], _ => True
 | _ :: _, [] => False
 | x :: u, y :: v => x < y ∨ x = y ∧ lexLe u v
theorem NF.shortW_first {a : NF} {far : List Int} (hF : a.Far far) : ∀ (k : Nat) (m : List Bool) (v : List Nat), a.Lev far m k → okW a.L v → v.length = k → a.has (runW a.after m v) = true → lexLe (a.shortW far k m) v
  | 0, _, _, _, _, _, _ => trivial
  | k + 1, m, [], _, _, hl, _ => absurd hl (by simp)
  | k + 1, m, y :: v, h, hv, hl, hA => by
    obtain ⟨x, hp, hx, hL, hless⟩ := h.pick hF
    simp only [NF.shortW, hp, lexLe]
    have hlv : v.length = k := by simpa using hl
    have hvo : okW a.L v := fun z hz => hv z (List.mem_cons_of_mem _ hz)
    obtain ⟨s, hs, hm, hall⟩ := NF.single v (m := a.after m y) hA
    have hd : a.Dist s k := by
      obtain ⟨q, hq, hmq, hto⟩ := (NF.after_get hs).1 hm
      have hB : a.B k s = true := by
        obtain ⟨s', hs', h1, h2⟩ := NF.B_of v (m := marksM a.n [(s : Int)]) hvo (hall _ (by rw [getD_some (marksM_get hs)]; simp))
        rw [getD_some (marksM_get hs')] at h1
        have : s' = s := by have : (s' : Int) = (s : Int) := by simpa using h1
                            omega
        rw [hlv] at h2
        rwa [this] at h2
      refine ⟨hB, fun e he => ?_⟩
      rcases hb : a.B e s with _ | _
      · rfl
      · have := (h.all q hq hmq).2 (e + 1) (by omega)
        rw [NF.B_succ.2 ⟨y, s, hv y List.mem_cons_self, hs, hto, hb⟩] at this
        exact absurd this (by simp)
    have hcut : (cutM far (a.after m y) k).getD s false = true := cutM_get.2 ⟨hm, (hF.iff hs k).2 hd⟩
    rcases Nat.lt_trichotomy x y with hxy | rfl | hxy
    · exact .inl hxy
    · exact .inr ⟨rfl, NF.shortW_first hF k _ v hL hvo hlv (hall _ hcut)⟩
    · have h1 := hless y hxy
      rw [some_iff.2 ⟨s, by simp [cutM, a.after_len, hs], hcut⟩] at h1
      exact absurd h1 (by simp)
structure NF.Short (a : NF) (r : Option (List Nat)) : Prop where
 non : r = none → ∀ w, okW a.L w → a.lang w = false
 som : ∀ w, r = some w → okW a.L w ∧ a.lang w = true ∧ ∀ v, okW a.L v → a.lang v = true → w.length < v.length ∨ w.length = v.length ∧ lexLe w v
def FirstW (L : Nat) (Λ : List Nat → Bool) (z : List Nat) : Prop := okW L z ∧ Λ z = true ∧ ∀ v, okW L v → Λ v = true → z.length < v.length ∨ z.length = v.length ∧ lexLe z v
end Go.Proofs.YtakpmdmjbgipiaaGreatDoor
namespace Go.Proofs.YtakpmdmjbgipiaaGreatDoor
def NF.psR (a : NF) (s x : Nat) : List (Nat × Int) := (List.range x).flatMap fun y => (a.to s y).map fun t => (s, t)
def NF.psS (a : NF) (s : Nat) : List (Nat × Int) := (List.range s).flatMap fun r => a.psR r a.L
def NF.ps (a : NF) (s x j : Nat) : List (Nat × Int) := a.psS s ++ a.psR s x ++ ((a.to s x).take j).map fun t => (s, t)
theorem NF.ps_step {a : NF} {s x j : Nat} {t : Int} (h : (a.to s x)[j]? = some t) : a.ps s x (j + 1) = a.ps s x j ++ [(s, t)] := by
 unfold NF.ps
 rw [List.take_add_one, h]
 simp
theorem NF.ps_row {a : NF} {s x j : Nat} (h : (a.to s x).length ≤ j) : a.ps s x j = a.ps s (x + 1) 0 := by
 unfold NF.ps
 rw [List.take_of_length_le h]
 simp [NF.psR, List.range_succ]
theorem NF.ps_state {a : NF} {s : Nat} : a.ps s a.L 0 = a.ps (s + 1) 0 0 := by
 unfold NF.ps
 simp [NF.psS, NF.psR, List.range_succ]
theorem flatMap_pre {S T : Type} {f : S → List T} {l m : List S} (h : l <+: m) : (l.flatMap f).length ≤ (m.flatMap f).length := by
 obtain ⟨k, rfl⟩ := h
 simp
theorem range_pre {m n : Nat} (h : m ≤ n) : List.range m <+: List.range n := by
 have : n = m + (n - m) := by omega
 rw [this, List.range_add]
 exact List.prefix_append _ _
theorem NF.ps_len {a : NF} {s x j : Nat} (hs : s < a.n) (hx : x < a.L) : (a.ps s x j).length ≤ (a.psS a.n).length := by
 have h1 : (a.psS (s + 1)).length ≤ (a.psS a.n).length := flatMap_pre (range_pre (by omega))
 have h2 : (a.psR s (x + 1)).length ≤ (a.psR s a.L).length := flatMap_pre (range_pre (by omega))
 have h3 : (a.psS (s + 1)).length = (a.psS s).length + (a.psR s a.L).length := by simp [NF.psS, List.range_succ]
 have h4 : (a.psR s (x + 1)).length = (a.psR s x).length + (a.to s x).length := by simp [NF.psR, List.range_succ]
 unfold NF.ps
 simp only [List.length_append, List.length_map, List.length_take]
 omega
theorem NF.to_len {a : NF} {s x : Nat} (hs : s < a.n) (hx : x < a.L) : (a.to s x).length ≤ (a.psS a.n).length := by
 have := a.ps_len (j := (a.to s x).length) hs hx
 unfold NF.ps at this
 simp only [List.length_append, List.length_map, List.length_take] at this
 omega
theorem NF.mem_psS {a : NF} {n s : Nat} {t : Int} : (s, t) ∈ a.psS n ↔ s < n ∧ ∃ x, x < a.L ∧ t ∈ a.to s x := by
 simp only [NF.psS, NF.psR, List.mem_flatMap, List.mem_range, List.mem_map, Prod.mk.injEq]
 constructor
 ·rintro ⟨r, hr, x, hx, u, hu, rfl, rfl⟩
  exact ⟨hr, x, hx, hu⟩
 ·rintro ⟨hs, x, hx, hu⟩
  exact ⟨s, hs, x, hx, t, hu, rfl, rfl⟩
def bkOf (ps : List (Nat × Int)) (y : Nat) : List Nat := (ps.filter fun p => decide (p.2 = (y : Int))).map (·.1)
theorem bkOf_len (ps : List (Nat × Int)) (y : Nat) : (bkOf ps y).length ≤ ps.length := by
 unfold bkOf
 rw [List.length_map]
 exact List.length_filter_le _ _
theorem bkOf_step (ps : List (Nat × Int)) (s t y : Nat) : bkOf (ps ++ [(s, (t : Int))]) y = if y = t then bkOf ps y ++ [s] else bkOf ps y := by
 unfold bkOf
 rw [List.filter_append, List.map_append]
 by_cases e : y = t
 ·subst e; simp
 ·rw [if_neg e]
  have : decide ((t : Int) = (y : Int)) = false := by simp; omega
  simp [this]
theorem mem_bk {ps : List (Nat × Int)} {s y : Nat} : s ∈ bkOf ps y ↔ (s, (y : Int)) ∈ ps := by
 simp only [bkOf, List.mem_map, List.mem_filter, decide_eq_true_eq]
 constructor
 ·rintro ⟨⟨p, t⟩, ⟨h1, h2⟩, rfl⟩
  simp only at h2
  subst h2
  exact h1
 ·intro h
  exact ⟨_, ⟨h, rfl⟩, rfl⟩
def NF.edge (a : NF) (q y : Nat) : Prop := ∃ x, x < a.L ∧ (y : Int) ∈ a.to q x
theorem NF.mem_back {a : NF} {q y : Nat} : q ∈ bkOf (a.psS a.n) y ↔ q < a.n ∧ a.edge q y := mem_bk.trans NF.mem_psS
def NF.far0 (a : NF) (s : Nat) : List Int := (List.range a.n).map fun q => if q < s then (if a.acc.getD q false then 0 else -1) else 0
def NF.que0 (a : NF) (s : Nat) : List Nat := (List.range s).filter fun q => a.acc.getD q false
theorem NF.far0_len (a : NF) (s : Nat) : (a.far0 s).length = a.n := by simp [NF.far0]
theorem NF.far0_at {a : NF} {s q : Nat} (h : q < a.n) : (a.far0 s)[q]? = some (if q < s then (if a.acc.getD q false then 0 else -1) else 0) := by
 unfold NF.far0
 rw [List.getElem?_map, List.getElem?_range h]
 rfl
theorem NF.far0_step {a : NF} {s : Nat} (h : s < a.n) : (a.far0 s).set s (if a.acc.getD s false then 0 else -1) = a.far0 (s + 1) := by
 apply List.ext_getElem?
 intro q
 rw [List.getElem?_set]
 rcases Nat.lt_or_ge q a.n with hq | hq
 ·rw [far0_at hq, far0_at hq, far0_len]
  by_cases e : s = q
  ·subst e; simp [h]
  ·rw [if_neg e]
   by_cases e2 : q < s
   ·have e3 : q < s + 1 := by omega
    simp only [e2, e3, if_true]
   ·have e3 : ¬ q < s + 1 := by omega
    simp only [e2, e3, if_false]
 ·rw [List.getElem?_eq_none (by rw [far0_len]; exact hq), List.getElem?_eq_none (by rw [far0_len]; exact hq), if_neg (by omega)]
theorem NF.que0_step {a : NF} {s : Nat} : a.que0 (s + 1) = if a.acc.getD s false then a.que0 s ++ [s] else a.que0 s := by
 unfold NF.que0
 rw [List.range_succ, List.filter_append]
 rw [List.filter_cons, List.filter_nil]
 split
 ·rfl
 ·exact List.append_nil _
def und (far : List Int) : Nat := far.countP fun z => decide (z = -1)
theorem und_set : ∀ {far : List Int} {s : Nat} {v : Int}, far[s]? = some (-1) → v ≠ -1 → und (far.set s v) + 1 = und far
 | [], _, _, h, _ => by simp at h
 | z :: far, 0, v, h, hv => by
  have hz : z = -1 := by simpa using h
  subst hz
  simp [und, List.set_cons_zero, hv]
 | z :: far, s + 1, v, h, hv => by
  have := und_set (far := far) (s := s) (v := v) (by simpa using h) hv
  unfold und at this ⊢
  rw [List.set_cons_succ, List.countP_cons, List.countP_cons]
  omega
structure NF.Bfs (a : NF) (far : List Int) (qs : List Nat) : Prop where
 len : far.length = a.n
 ge : ∀ q, q < a.n → far.getD q (-1) = -1 ∨ ∃ k : Nat, far.getD q (-1) = (k : Int) ∧ a.Dist q k
 acc : ∀ q, q < a.n → a.acc.getD q false = true → far.getD q (-1) ≠ -1
 cl : ∀ q y, q < a.n → y < a.n → far.getD q (-1) = -1 → a.edge q y → far.getD y (-1) = -1 ∨ y ∈ qs
 q : ∀ y ∈ qs, y < a.n ∧ far.getD y (-1) ≠ -1
 asc : qs.Pairwise fun x y => far.getD x (-1) ≤ far.getD y (-1)
 top : ∀ x ∈ qs, ∀ y ∈ qs, far.getD y (-1) ≤ far.getD x (-1) + 1
 size : qs.length + und far ≤ a.n
theorem range_get {n q : Nat} (h : q < n) : (List.range n)[q]? = some q := List.getElem?_range h
theorem und_far0 (a : NF) : (a.que0 a.n).length + und (a.far0 a.n) ≤ a.n := by
 have key : ∀ l : List Nat, (∀ q ∈ l, q < a.n) → (l.filter fun q => a.acc.getD q false).length + (l.map fun q => if q < a.n then (if a.acc.getD q false then (0 : Int) else -1) else 0).countP (fun z => decide (z = -1)) ≤ l.length := by
  intro l
  induction l with
  | nil => intro _; simp
  | cons q l ih =>
   intro h
   have := ih fun x hx => h x (List.mem_cons_of_mem _ hx)
   have hq := h q List.mem_cons_self
   rw [List.filter_cons, List.map_cons, List.countP_cons, if_pos hq]
   rcases hb : a.acc.getD q false with _ | _
   ·have e : (if decide ((if false = true then (0 : Int) else -1) = -1) = true then 1 else 0) = 1 := by decide
    rw [e, if_neg (by decide), List.length_cons]
    omega
   ·have e : (if decide ((if true = true then (0 : Int) else -1) = -1) = true then 1 else 0) = 0 := by decide
    rw [e, if_pos rfl, List.length_cons, List.length_cons]
    omega
 have := key (List.range a.n) fun q hq => List.mem_range.1 hq
 rw [List.length_range] at this
 exact this
theorem NF.bfs0 (a : NF) : a.Bfs (a.far0 a.n) (a.que0 a.n) := by
 have hf : ∀ q, q < a.n → (a.far0 a.n).getD q (-1) = if a.acc.getD q false then 0 else -1 := fun q hq => by
  rw [getD_some (NF.far0_at hq), if_pos hq]
 have hm : ∀ q, q ∈ a.que0 a.n ↔ q < a.n ∧ a.acc.getD q false = true := fun q => by simp [NF.que0]
 have hz : ∀ q ∈ a.que0 a.n, (a.far0 a.n).getD q (-1) = 0 := fun q hq => by
  obtain ⟨h1, h2⟩ := (hm q).1 hq
  rw [hf q h1, h2]; rfl
 refine ⟨a.far0_len _, fun q hq => ?_, fun q hq hA => ?_, fun q y hq hy _ _ => ?_, fun y hy => ?_, ?_, fun x hx y hy => ?_, und_far0 a⟩
 ·rw [hf q hq]
  rcases hb : a.acc.getD q false with _ | _
  ·exact .inl rfl
  ·exact .inr ⟨0, rfl, hb, fun e he => absurd he (by omega)⟩
 ·rw [hf q hq, hA]; simp
 ·rw [hf y hy]
  rcases hb : a.acc.getD y false with _ | _
  ·exact .inl rfl
  ·exact .inr ((hm y).2 ⟨hy, hb⟩)
 ·exact ⟨((hm y).1 hy).1, by rw [hz y hy]; decide⟩
 ·exact List.pairwise_of_forall_mem_list fun x hx y hy => by rw [hz x hx, hz y hy]; exact Int.le_refl _
 ·rw [hz x hx, hz y hy]; decide
section
variable {a : NF} {far : List Int} {qs : List Nat}
theorem NF.Bfs.isFar (h : a.Bfs far []) : a.Far far := by
 refine ⟨h.len, fun q hq => ?_⟩
 rcases h.ge q hq with h1 | h1
 ·refine .inl ⟨h1, fun d => ?_⟩
  have key : ∀ d q, q < a.n → far.getD q (-1) = -1 → a.B d q = false := by
   intro d
   induction d with
   | zero =>
    intro q hq h1
    rcases hb : a.B 0 q with _ | _
    ·rfl
    ·exact absurd h1 (h.acc q hq hb)
   | succ d ih =>
    intro q hq h1
    rcases hb : a.B (d + 1) q with _ | _
    ·rfl
    ·obtain ⟨x, y, hx, hy, hm, hB⟩ := NF.B_succ.1 hb
     rcases h.cl q y hq hy h1 ⟨x, hx, hm⟩ with h2 | h2
     ·rw [ih y hy h2] at hB; exact absurd hB (by simp)
     ·exact absurd h2 List.not_mem_nil
  exact key d q hq h1
 ·exact .inr h1
theorem NF.Bfs.least {hd k : Nat} {t : List Nat} (h : a.Bfs far (hd :: t)) (hk : far.getD hd (-1) = (k : Int)) : ∀ e q, q < a.n → far.getD q (-1) = -1 → a.B e q = true → k + 1 ≤ e := by
 intro e
 induction e with
 | zero => intro q hq h1 hB; exact absurd h1 (h.acc q hq hB)
 | succ e ih =>
  intro q hq h1 hB
  obtain ⟨x, y, hx, hy, hm, hB⟩ := NF.B_succ.1 hB
  rcases h.cl q y hq hy h1 ⟨x, hx, hm⟩ with h2 | h2
  ·have := ih y hy h2 hB; omega
  ·rcases h.ge y hy with h3 | ⟨j, h3, h4⟩
   ·exact absurd h3 (h.q y h2).2
   ·have hj : j ≤ e := by
     rcases Nat.lt_or_ge e j with hlt | hge
     ·have := h4.2 e hlt; rw [hB] at this; exact absurd this (by simp)
     ·exact hge
    have hkj : (k : Int) ≤ (j : Int) := by
     rcases List.mem_cons.1 h2 with rfl | h2
     ·rw [← hk, ← h3]; exact Int.le_refl _
     ·rw [← hk, ← h3]; exact (List.pairwise_cons.1 h.asc).1 y h2
    omega
theorem getD_set {l : List Int} {s q : Nat} {v d : Int} (hs : s < l.length) : (l.set s v).getD q d = if q = s then v else l.getD q d := by
 rw [List.getD_eq_getElem?_getD, List.getElem?_set]
 by_cases e : s = q
 ·subst e; simp [hs]
 ·rw [if_neg e, if_neg (fun h => e h.symm), List.getD_eq_getElem?_getD]
theorem NF.Bfs.find {hd k s : Nat} {t : List Nat} (h : a.Bfs far (hd :: t)) (hk : far.getD hd (-1) = (k : Int)) (hs : s < a.n) (hn : far.getD s (-1) = -1) (he : a.edge s hd) : a.Bfs (far.set s (((k + 1 : Nat)) : Int)) (hd :: (t ++ [s])) := by
 have hsl : s < far.length := by rw [h.len]; exact hs
 have hg : ∀ q, (far.set s (((k + 1 : Nat)) : Int)).getD q (-1) = if q = s then (((k + 1 : Nat)) : Int) else far.getD q (-1) := fun q => getD_set hsl
 have hhd := h.q hd List.mem_cons_self
 have hne : ∀ y ∈ hd :: t, y ≠ s := fun y hy e => (h.q y hy).2 (by rw [e]; exact hn)
 have hgy : ∀ y ∈ hd :: t, (far.set s (((k + 1 : Nat)) : Int)).getD y (-1) = far.getD y (-1) := fun y hy => by rw [hg, if_neg (hne y hy)]
 have hgs : (far.set s (((k + 1 : Nat)) : Int)).getD s (-1) = (((k + 1 : Nat)) : Int) := by rw [hg, if_pos rfl]
 have hD : a.Dist s (k + 1) := by
  obtain ⟨x, hx, hm⟩ := he
  refine ⟨NF.B_succ.2 ⟨x, hd, hx, hhd.1, hm, ?_⟩, fun e he => ?_⟩
  ·rcases h.ge hd hhd.1 with h1 | ⟨j, h1, h2⟩
   ·exact absurd h1 hhd.2
   ·have : j = k := by omega
    subst this
    exact h2.1
  ·rcases hb : a.B e s with _ | _
   ·rfl
   ·have := h.least hk e s hs hn hb; omega
 have e : hd :: (t ++ [s]) = (hd :: t) ++ [s] := rfl
 have hmem : ∀ y, y ∈ hd :: (t ++ [s]) ↔ y ∈ hd :: t ∨ y = s := fun y => by rw [e, List.mem_append, List.mem_singleton]
 refine ⟨by rw [List.length_set]; exact h.len, fun q hq => ?_, fun q hq hA => ?_, fun q y hq hy h1 h2 => ?_, fun y hy => ?_, ?_, fun x hx y hy => ?_, ?_⟩
 ·rw [hg]
  split
  ·rename_i hqs; subst hqs
   exact .inr ⟨k + 1, rfl, hD⟩
  ·exact h.ge q hq
 ·rw [hg]
  split
  ·omega
  ·exact h.acc q hq hA
 ·rw [hg] at h1
  by_cases hqs : q = s
  ·rw [if_pos hqs] at h1; omega
  ·rw [if_neg hqs] at h1
   by_cases hys : y = s
   ·exact .inr ((hmem y).2 (.inr hys))
   ·rw [hg, if_neg hys]
    rcases h.cl q y hq hy h1 h2 with h3 | h3
    ·exact .inl h3
    ·exact .inr ((hmem y).2 (.inl h3))
 ·rcases (hmem y).1 hy with hy | rfl
  ·rw [hgy y hy]; exact h.q y hy
  ·rw [hgs]; exact ⟨hs, by omega⟩
 ·rw [e, List.pairwise_append]
  refine ⟨?_, List.pairwise_singleton _ _, fun x hx y hy => ?_⟩
  ·exact h.asc.imp_of_mem fun {x y} hx hy hxy => by rw [hgy x hx, hgy y hy]; exact hxy
  ·rw [List.mem_singleton.1 hy, hgs, hgy x hx]
   have := h.top hd List.mem_cons_self x hx
   omega
 ·have hlow : ∀ z ∈ hd :: t, (k : Int) ≤ far.getD z (-1) := fun z hz => by
   rcases List.mem_cons.1 hz with rfl | hz
   ·omega
   ·rw [← hk]; exact (List.pairwise_cons.1 h.asc).1 z hz
  rcases (hmem x).1 hx with hx' | ex <;> rcases (hmem y).1 hy with hy' | ey
  ·rw [hgy x hx', hgy y hy']; exact h.top x hx' y hy'
  ·rw [hgy x hx', ey, hgs]; have := hlow x hx'; omega
  ·rw [hgy y hy', ex, hgs]; have := h.top hd List.mem_cons_self y hy'; omega
  ·rw [ex, ey]; omega
 ·have hu := und_set (far := far) (s := s) (v := (((k + 1 : Nat)) : Int)) (by
   obtain ⟨z, hz⟩ := get_lt hsl
   rw [hz, ← getD_some (d := (-1 : Int)) hz, hn]) (by omega)
  have := h.size
  simp only [List.length_cons, List.length_append, List.length_nil] at this ⊢
  omega
theorem NF.Bfs.pop {hd : Nat} {t : List Nat} (h : a.Bfs far (hd :: t)) (hp : ∀ q, q < a.n → a.edge q hd → far.getD q (-1) ≠ -1) : a.Bfs far t := by
 refine ⟨h.len, h.ge, h.acc, fun q y hq hy h1 h2 => ?_, fun y hy => h.q y (List.mem_cons_of_mem _ hy), (List.pairwise_cons.1 h.asc).2, fun x hx y hy => h.top x (List.mem_cons_of_mem _ hx) y (List.mem_cons_of_mem _ hy), ?_⟩
 ·rcases h.cl q y hq hy h1 h2 with h3 | h3
  ·exact .inl h3
  ·rcases List.mem_cons.1 h3 with rfl | h3
   ·exact absurd h1 (hp q hq h2)
   ·exact .inr h3
 ·have := h.size
  rw [List.length_cons] at this
  omega
end
structure NF.BfsJ (a : NF) (far : List Int) (hd : Nat) (t : List Nat) (k m j : Nat) : Prop where
 bfs : a.Bfs far (hd :: t)
 hk : far.getD hd (-1) = (k : Int)
 pre : ∀ s ∈ (bkOf (a.psS a.n) hd).take j, far.getD s (-1) ≠ -1
 size : t.length + und far = m
section
variable {a : NF} {far : List Int} {hd k m j s : Nat} {t : List Nat}
theorem NF.BfsJ.skip (h : a.BfsJ far hd t k m j) (hs : (bkOf (a.psS a.n) hd)[j]? = some s) (hf : far.getD s (-1) ≠ -1) : a.BfsJ far hd t k m (j + 1) := by
 refine ⟨h.bfs, h.hk, fun q hq => ?_, h.size⟩
 rw [List.take_add_one, hs] at hq
 rcases List.mem_append.1 hq with hq | hq
 ·exact h.pre q hq
 ·have : q = s := by simpa using hq
  rw [this]; exact hf
theorem NF.BfsJ.found (h : a.BfsJ far hd t k m j) (hs : (bkOf (a.psS a.n) hd)[j]? = some s) (hf : far.getD s (-1) = -1) : a.BfsJ (far.set s (((k + 1 : Nat)) : Int)) hd (t ++ [s]) k m (j + 1) := by
 obtain ⟨h1, h2⟩ := NF.mem_back.1 (List.mem_of_getElem? hs)
 have hsl : s < far.length := by rw [h.bfs.len]; exact h1
 have hg : ∀ q, (far.set s (((k + 1 : Nat)) : Int)).getD q (-1) = if q = s then (((k + 1 : Nat)) : Int) else far.getD q (-1) := fun q => getD_set hsl
 refine ⟨h.bfs.find h.hk h1 hf h2, ?_, fun q hq => ?_, ?_⟩
 ·rw [hg, if_neg, h.hk]
  rintro rfl
  exact (h.bfs.q _ List.mem_cons_self).2 hf
 ·rw [hg]
  split
  ·omega
  ·rename_i hne
   rw [List.take_add_one, hs] at hq
   rcases List.mem_append.1 hq with hq | hq
   ·exact h.pre q hq
   ·exact absurd (by simpa using hq) hne
 ·have hu := und_set (far := far) (s := s) (v := (((k + 1 : Nat)) : Int)) (by
   obtain ⟨z, hz⟩ := get_lt hsl
   rw [hz, ← getD_some (d := (-1 : Int)) hz, hf]) (by omega)
  have := h.size
  rw [List.length_append, List.length_singleton]
  omega
theorem NF.BfsJ.done (h : a.BfsJ far hd t k m j) (hj : (bkOf (a.psS a.n) hd).length ≤ j) : a.Bfs far t :=
 h.bfs.pop fun q hq he => h.pre q (by rw [List.take_of_length_le hj]; exact NF.mem_back.2 ⟨hq, he⟩)
end
end Go.Proofs.YtakpmdmjbgipiaaGreatDoor
namespace Go.Proofs.YtakpmdmjbgipiaaGreatDoor
def bestI (far : List Int) (b : Int) (l : List Int) : Int := l.foldl (fun b s => if 0 ≤ far.getD s.toNat (-1) ∧ (b < 0 ∨ far.getD s.toNat (-1) < b) then far.getD s.toNat (-1) else b) b
theorem bestI_step {far : List Int} {b : Int} {l : List Int} {k : Nat} {s : Int} (h : l[k]? = some s) : bestI far b (l.take (k + 1)) = if 0 ≤ far.getD s.toNat (-1) ∧ (bestI far b (l.take k) < 0 ∨ far.getD s.toNat (-1) < bestI far b (l.take k)) then far.getD s.toNat (-1) else bestI far b (l.take k) := by
 unfold bestI
 rw [List.take_add_one, h]
 simp only [Option.toList_some, List.foldl_append, List.foldl_cons, List.foldl_nil]
theorem bestI_spec {far : List Int} (hf : ∀ q, -1 ≤ far.getD q (-1)) : ∀ (l : List Int) (b : Int), -1 ≤ b → -1 ≤ bestI far b l ∧
  (bestI far b l < 0 → b < 0 ∧ ∀ s ∈ l, far.getD s.toNat (-1) = -1) ∧
  (0 ≤ bestI far b l → (bestI far b l = b ∨ ∃ s ∈ l, far.getD s.toNat (-1) = bestI far b l) ∧ (b < 0 ∨ bestI far b l ≤ b) ∧ ∀ s ∈ l, far.getD s.toNat (-1) = -1 ∨ bestI far b l ≤ far.getD s.toNat (-1)) := by
 intro l
 induction l with
 | nil => intro b hb; exact ⟨hb, fun h => ⟨h, fun s hs => absurd hs List.not_mem_nil⟩, fun h => ⟨.inl rfl, .inr (Int.le_refl _), fun s hs => absurd hs List.not_mem_nil⟩⟩
 | cons x l ih =>
  intro b hb
  have hx := hf x.toNat
  obtain ⟨b', hb'⟩ : ∃ b', b' = if 0 ≤ far.getD x.toNat (-1) ∧ (b < 0 ∨ far.getD x.toNat (-1) < b) then far.getD x.toNat (-1) else b := ⟨_, rfl⟩
  have e : bestI far b (x :: l) = bestI far b' l := by rw [hb']; rfl
  rw [e]
  have hb2 : -1 ≤ b' := by rw [hb']; split <;> omega
  obtain ⟨h1, h2, h3⟩ := ih b' hb2
  refine ⟨h1, fun h => ?_, fun h => ?_⟩
  ·obtain ⟨h4, h5⟩ := h2 h
   rw [hb'] at h4
   split at h4
   ·omega
   ·rename_i hn
    refine ⟨h4, fun s hs => ?_⟩
    rcases List.mem_cons.1 hs with rfl | hs
    ·omega
    ·exact h5 s hs
  ·obtain ⟨h4, h5, h6⟩ := h3 h
   by_cases hc : 0 ≤ far.getD x.toNat (-1) ∧ (b < 0 ∨ far.getD x.toNat (-1) < b)
   ·rw [if_pos hc] at hb'
    refine ⟨?_, ?_, fun s hs => ?_⟩
    ·rcases h4 with h4 | ⟨s, hs, h4⟩
     ·exact .inr ⟨x, List.mem_cons_self, by omega⟩
     ·exact .inr ⟨s, List.mem_cons_of_mem _ hs, h4⟩
    ·omega
    ·rcases List.mem_cons.1 hs with rfl | hs
     ·omega
     ·exact h6 s hs
   ·rw [if_neg hc] at hb'
    subst hb'
    refine ⟨?_, h5, fun s hs => ?_⟩
    ·rcases h4 with h4 | ⟨s, hs, h4⟩
     ·exact .inl h4
     ·exact .inr ⟨s, List.mem_cons_of_mem _ hs, h4⟩
    ·rcases List.mem_cons.1 hs with rfl | hs
     ·omega
     ·exact h6 s hs
theorem NF.Far.ge {a : NF} {far : List Int} (h : a.Far far) (q : Nat) : -1 ≤ far.getD q (-1) := by
 rcases Nat.lt_or_ge q a.n with hq | hq
 ·rcases h.at_ q hq with ⟨h1, _⟩ | ⟨k, h1, _⟩ <;> omega
 ·rw [List.getD_eq_getElem?_getD, List.getElem?_eq_none (by rw [h.len]; exact hq)]
  exact Int.le_refl _
def NF.shortR (a : NF) (far : List Int) : Option (List Nat) :=
 if bestI far (-1) a.start < 0 then none else some (a.shortW far (bestI far (-1) a.start).toNat (cutM far a.st (bestI far (-1) a.start).toNat))
theorem NF.st_get {a : NF} {q : Nat} (hq : q < a.n) : a.st.getD q false = decide ((q : Int) ∈ a.start) := getD_some (marksM_get hq)
theorem NF.start_lev {a : NF} {far : List Int} (hF : a.Far far) (hok : a.OK) {k : Nat} (hk : bestI far (-1) a.start = (k : Int)) : a.Lev far (cutM far a.st k) k := by
 obtain ⟨_, _, h3⟩ := bestI_spec hF.ge a.start (-1) (by omega)
 obtain ⟨h4, _, _⟩ := h3 (by omega)
 rcases h4 with h4 | ⟨s, hs, h4⟩
 ·omega
 ·obtain ⟨q, rfl, hq⟩ := inN_nat (hok.start s hs)
  have hq' : q < a.n := by simpa using hq
  refine NF.Lev.cut hF a.st_len (some_iff.2 ⟨q, by simp [cutM, a.st_len, hq'], cutM_get.2 ⟨?_, ?_⟩⟩)
  ·rw [NF.st_get hq']; simpa using hs
  ·have : ((q : Int)).toNat = q := by omega
   rw [this] at h4
   rw [h4, hk]
theorem NF.shortR_ok {a : NF} {far : List Int} (hF : a.Far far) (hok : a.OK) : a.Short (a.shortR far) := by
  obtain ⟨h1, h2, h3⟩ := bestI_spec hF.ge a.start (-1) (by omega)
  have hB : ∀ w, okW a.L w → a.lang w = true → ∃ s : Nat, s < a.n ∧ (s : Int) ∈ a.start ∧ a.B w.length s = true := fun w hw h => by
    obtain ⟨s, hs, hm, hb⟩ := NF.B_of w hw h
    rw [NF.st_get hs] at hm
    exact ⟨s, hs, by simpa using hm, hb⟩
  unfold NF.shortR
  split
  · rename_i hlt
    refine ⟨fun _ w hw => ?_, fun w h => by cases h⟩
    rcases hb : a.lang w with _ | _
    · rfl
    · obtain ⟨s, hs, hm, hb⟩ := hB w hw hb
      have := (h2 hlt).2 _ hm
      have e : ((s : Int)).toNat = s := by omega
      rw [e] at this
      rcases hF.at_ s hs with ⟨_, h5⟩ | ⟨k, h5, _⟩
      · rw [h5] at hb; exact absurd hb (by simp)
      · omega
  · rename_i hge
    obtain ⟨k, hk⟩ := Int.eq_ofNat_of_zero_le (show 0 ≤ bestI far (-1) a.start by omega)
    have hL := NF.start_lev hF hok hk
    obtain ⟨h4, h5, h6⟩ := NF.shortW_spec hF k _ hL
    have hkn : (bestI far (-1) a.start).toNat = k := by omega
    rw [hkn]
    refine ⟨fun h => (by cases h), fun w h => ?_⟩
    injection h with h
    have hmono : ∀ v, a.has (runW a.after (cutM far a.st k) v) = true → a.lang v = true := fun v hv => NF.has_mono (NF.run_mono v (m' := a.st) fun q hq => (cutM_get.1 hq).1) hv
    subst h
    refine ⟨h4, hmono _ h6, fun v hv hA => ?_⟩
    rw [h5]
    obtain ⟨s, hs, hm, hb⟩ := hB v hv hA
    have hle : (k : Int) ≤ v.length := by
      have := (h3 (by omega)).2.2 _ hm
      have e : ((s : Int)).toNat = s := by omega
      rw [e] at this
      rcases hF.at_ s hs with ⟨_, h7⟩ | ⟨j, h7, h8⟩
      · rw [h7] at hb; exact absurd hb (by simp)
      · have : j ≤ v.length := by
          rcases Nat.lt_or_ge v.length j with hlt | hge
          · rw [h8.2 _ hlt] at hb; exact absurd hb (by simp)
          · exact hge
        omega
    rcases Nat.lt_or_ge k v.length with hlt | hge2
    · exact .inl hlt
    · have hkv : v.length = k := by omega
      refine .inr ⟨hkv.symm, ?_⟩
      refine NF.shortW_first hF k _ v hL hv hkv ?_
      obtain ⟨s, hs, hm, hall⟩ := NF.single v (m := a.st) hA
      refine hall _ (cutM_get.2 ⟨hm, ?_⟩)
      have hBs : a.B k s = true := by
        obtain ⟨s', hs', h1, h2⟩ := NF.B_of v (m := marksM a.n [(s : Int)]) hv (hall _ (by rw [getD_some (marksM_get hs)]; simp))
        rw [getD_some (marksM_get hs')] at h1
        have : s' = s := by have : (s' : Int) = (s : Int) := by simpa using h1
                            omega
        rw [hkv] at h2
        rwa [this] at h2
      rw [NF.st_get hs] at hm
      have hge3 := (h3 (by omega)).2.2 _ (by simpa using hm)
      have e : ((s : Int)).toNat = s := by omega
      rw [e] at hge3
      rcases hF.at_ s hs with ⟨_, h7⟩ | ⟨j, h7, h8⟩
      · rw [h7] at hBs; exact absurd hBs (by simp)
      · have : j ≤ k := by
          rcases Nat.lt_or_ge k j with hlt | hge
          · rw [h8.2 _ hlt] at hBs; exact absurd hBs (by simp)
          · exact hge
        omega
structure NF.Rel (a : NF) (es : List (Nat × Nat)) (far : List Int) (d j : Nat) : Prop where
 len : far.length = a.n
 low : ∀ q k, q < a.n → k < d → (far.getD q (-1) = (k : Int) ↔ a.Dist q k)
 val : ∀ q, q < a.n → far.getD q (-1) = -1 ∨ ∃ k : Nat, far.getD q (-1) = (k : Int) ∧ k ≤ d ∧ a.Dist q k
 done : ∀ e ∈ es.take j, far.getD e.2 (-1) + 1 = (d : Int) → far.getD e.1 (-1) ≠ -1
section
variable {a : NF} {es : List (Nat × Nat)} {far : List Int} {d j : Nat}
theorem NF.Rel.step (h : a.Rel es far d j) (hd : 0 < d) (hes : ∀ e, e ∈ es ↔ e.1 < a.n ∧ e.2 < a.n ∧ a.edge e.1 e.2) {q y : Nat} (he : es[j]? = some (q, y)) :
  a.Rel es (if far.getD q (-1) < 0 ∧ far.getD y (-1) = (d : Int) - 1 then far.set q (d : Int) else far) d (j + 1) := by
 obtain ⟨hq, hy, x, hx, hm⟩ := (hes _).1 (List.mem_of_getElem? he)
 by_cases hc : far.getD q (-1) < 0 ∧ far.getD y (-1) = (d : Int) - 1
 ·rw [if_pos hc]
  have hql : q < far.length := by rw [h.len]; exact hq
  have hg : ∀ r, (far.set q (d : Int)).getD r (-1) = if r = q then (d : Int) else far.getD r (-1) := fun r => getD_set hql
  have hyd : a.Dist y (d - 1) := (h.low y (d - 1) hy (by omega)).1 (by omega)
  have hqn : ∀ k, k < d → ¬ a.Dist q k := fun k hk hD => by
   have := (h.low q k hq hk).2 hD; omega
  have hD : a.Dist q d := by
   have hB : a.B d q = true := by
    have := NF.B_succ (a := a) (d := d - 1) (q := q)
    rw [show d - 1 + 1 = d by omega] at this
    exact this.2 ⟨x, y, hx, hy, hm, hyd.1⟩
   refine ⟨hB, fun e he => ?_⟩
   rcases hb : a.B e q with _ | _
   ·rfl
   ·obtain ⟨j, hj, hdj⟩ := NF.dist_of e hb
    exact absurd hdj (hqn j (by omega))
  refine ⟨by rw [List.length_set]; exact h.len, fun r k hr hk => ?_, fun r hr => ?_, fun e he' h1 => ?_⟩
  ·rw [hg]
   split
   ·rename_i e; subst e
    exact ⟨fun e => by omega, fun hD => absurd hD (hqn k hk)⟩
   ·exact h.low r k hr hk
  ·rw [hg]
   split
   ·rename_i e; subst e
    exact .inr ⟨d, rfl, Nat.le_refl _, hD⟩
   ·exact h.val r hr
  ·rw [hg]
   split
   ·omega
   ·rename_i hne
    rw [hg] at h1
    rw [List.take_add_one, he] at he'
    rcases List.mem_append.1 he' with he' | he'
    ·split at h1
     ·omega
     ·exact h.done e he' h1
    ·have : e = (q, y) := by simpa using he'
     subst this
     exact absurd rfl hne
 ·rw [if_neg hc]
  refine ⟨h.len, h.low, h.val, fun e he' h1 => ?_⟩
  rw [List.take_add_one, he] at he'
  rcases List.mem_append.1 he' with he' | he'
  ·exact h.done e he' h1
  ·have : e = (q, y) := by simpa using he'
   subst this
   intro h2
   have h1' : far.getD y (-1) + 1 = (d : Int) := h1
   have h2' : far.getD q (-1) = -1 := h2
   exact hc ⟨by omega, by omega⟩
theorem NF.Rel.next (h : a.Rel es far d es.length) (hd : 0 < d) (hes : ∀ e, e ∈ es ↔ e.1 < a.n ∧ e.2 < a.n ∧ a.edge e.1 e.2) : a.Rel es far (d + 1) 0 := by
 refine ⟨h.len, fun q k hq hk => ?_, fun q hq => ?_, fun e he => by simp at he⟩
 ·rcases Nat.lt_or_ge k d with hlt | hge
  ·exact h.low q k hq hlt
  ·have : k = d := by omega
   subst this
   constructor
   ·intro e
    rcases h.val q hq with h1 | ⟨j, h1, _, h2⟩
    ·omega
    ·have : j = k := by omega
     subst this
     exact h2
   ·intro hD
    obtain ⟨k', rfl⟩ : ∃ k', k = k' + 1 := ⟨k - 1, by omega⟩
    obtain ⟨x, y, hx, hy, hm, hDy⟩ := hD.next
    have hfy := (h.low y k' hy (by omega)).2 hDy
    have hmem : (q, y) ∈ es := (hes _).2 ⟨hq, hy, x, hx, hm⟩
    have := h.done (q, y) (by rw [List.take_length]; exact hmem) (by simp only; omega)
    rcases h.val q hq with h1 | ⟨j, h1, _, h2⟩
    ·exact absurd h1 this
    ·rw [h1, hD.unique h2]
 ·rcases h.val q hq with h1 | ⟨k, h1, h2, h3⟩
  ·exact .inl h1
  ·exact .inr ⟨k, h1, by omega, h3⟩
theorem NF.Rel.isFar (h : a.Rel es far (a.n + 1) 0) : a.Far far := by
 refine ⟨h.len, fun q hq => ?_⟩
 rcases h.val q hq with h1 | ⟨k, h1, _, h3⟩
 ·refine .inl ⟨h1, fun d => ?_⟩
  rcases hb : a.B d q with _ | _
  ·rfl
  ·obtain ⟨k, hk, hD⟩ := NF.dist_of d hb
   have := (h.low q k hq (by have := hD.lt hq; omega)).2 hD
   omega
 ·exact .inr ⟨k, h1, h3⟩
end
theorem NF.rel0 (a : NF) (es : List (Nat × Nat)) : a.Rel es (a.far0 a.n) 1 0 := by
 have hf : ∀ q, q < a.n → (a.far0 a.n).getD q (-1) = if a.acc.getD q false then 0 else -1 := fun q hq => by
  rw [getD_some (NF.far0_at hq), if_pos hq]
 have hz : ∀ q, a.Dist q 0 ↔ a.acc.getD q false = true := fun q => ⟨fun h => h.1, fun h => ⟨h, fun e he => absurd he (by omega)⟩⟩
 refine ⟨a.far0_len _, fun q k hq hk => ?_, fun q hq => ?_, fun e he => by simp at he⟩
 ·have : k = 0 := by omega
  subst this
  rw [hf q hq, hz]
  rcases a.acc.getD q false with _ | _ <;> simp
 ·rw [hf q hq]
  rcases hb : a.acc.getD q false with _ | _
  ·exact .inl rfl
  ·exact .inr ⟨0, rfl, by omega, (hz q).2 hb⟩
end Go.Proofs.YtakpmdmjbgipiaaGreatDoor
namespace Go.Proofs.YtakpmdmjbgipiaaGreatDoor
def WA.afterE (a : WA) (m : List Bool) (x : Int) (k : Nat) : List Bool := (List.range a.n).map fun q : Nat => (a.edges.take k).any fun e => decide (e.letter = x) && m.getD e.frm.toNat false && decide (e.to = (q : Int))
theorem WA.afterE_len (a : WA) (m : List Bool) (x : Int) (k : Nat) : (a.afterE m x k).length = a.n := by simp [WA.afterE]
theorem WA.afterE_get {a : WA} {m : List Bool} {x : Int} {k q : Nat} (hq : q < a.n) : (a.afterE m x k)[q]? = some ((a.edges.take k).any fun e => decide (e.letter = x) && m.getD e.frm.toNat false && decide (e.to = (q : Int))) := by
 unfold WA.afterE
 rw [List.getElem?_map, List.getElem?_range hq]
 rfl
theorem WA.afterE_zero (a : WA) (m : List Bool) (x : Int) : a.afterE m x 0 = List.replicate a.n false := by
 apply List.ext_getElem?
 intro q
 rcases Nat.lt_or_ge q a.n with hq | hq
 ·rw [afterE_get hq, List.getElem?_replicate, if_pos hq]; simp
 ·rw [List.getElem?_eq_none (by rw [afterE_len]; exact hq), List.getElem?_eq_none (by simpa using hq)]
theorem WA.afterE_step {a : WA} {m : List Bool} {x : Int} {k : Nat} {e : Edg} (he : a.edges[k]? = some e) (ht : 0 ≤ e.to) : a.afterE m x (k + 1) = if decide (e.letter = x) && m.getD e.frm.toNat false then (a.afterE m x k).set e.to.toNat true else a.afterE m x k := by
 apply List.ext_getElem?
 intro q
 rcases Nat.lt_or_ge q a.n with hq | hq
 ·rw [afterE_get hq, List.take_add_one, he, List.any_append]
  simp only [Option.toList_some, List.any_cons, List.any_nil, Bool.or_false]
  rcases hc : (decide (e.letter = x) && m.getD e.frm.toNat false) with _ | _
  ·rw [if_neg (by decide), afterE_get hq]; simp
  ·rw [if_pos rfl, List.getElem?_set, afterE_len]
   by_cases hqe : e.to.toNat = q
   ·rw [if_pos hqe, if_pos (by omega)]
    have : e.to = (q : Int) := by omega
    simp [this]
   ·rw [if_neg hqe, afterE_get hq]
    have : decide (e.to = (q : Int)) = false := by simp; omega
    simp [this]
 ·rw [List.getElem?_eq_none (by rw [afterE_len]; exact hq), List.getElem?_eq_none]
  split <;> simp [afterE_len, hq]
theorem WA.afterE_all {a : WA} (h : a.In) {m : List Bool} {x k : Nat} (hx : x < a.L) (hk : a.edges.length ≤ k) : a.afterE m (x : Int) k = a.nf.after m x := by
 apply List.ext_getElem?
 intro q
 rcases Nat.lt_or_ge q a.n with hq | hq
 ·rw [afterE_get hq, List.take_of_length_le hk]
  unfold NF.after
  rw [a.nf_n, List.getElem?_map, List.getElem?_range hq]
  simp only [Option.map_some]
  congr 1
  rw [Bool.eq_iff_iff, List.any_eq_true, List.any_eq_true]
  constructor
  ·rintro ⟨e, he, h1⟩
   simp only [Bool.and_eq_true, decide_eq_true_eq] at h1
   obtain ⟨⟨h1, h2⟩, h3⟩ := h1
   obtain ⟨i1, i2, i3⟩ := h.edge e he
   obtain ⟨f, hf, hfn⟩ := inN_nat i1
   refine ⟨f, List.mem_range.2 hfn, ?_⟩
   rw [hf] at h2
   rw [a.nf_to hfn hx]
   simp only [Bool.and_eq_true, decide_eq_true_eq]
   exact ⟨by simpa using h2, WA.mem_to.2 ⟨e, he, hf, h1, h3⟩⟩
  ·rintro ⟨s, hs, h1⟩
   rw [a.nf_to (List.mem_range.1 hs) hx] at h1
   simp only [Bool.and_eq_true, decide_eq_true_eq] at h1
   obtain ⟨e, he, h2, h3, h4⟩ := WA.mem_to.1 h1.2
   refine ⟨e, he, ?_⟩
   simp only [Bool.and_eq_true, decide_eq_true_eq]
   refine ⟨⟨h3, ?_⟩, h4⟩
   rw [h2]
   simpa using h1.1
 ·rw [List.getElem?_eq_none (by rw [afterE_len]; exact hq), List.getElem?_eq_none (by rw [NF.after_len, a.nf_n]; exact hq)]
theorem WA.nf_acc {a : WA} {s : Nat} (hs : s < a.n) : a.nf.acc.getD s false = decide ((s : Int) ∈ a.accept) := getD_some (marksM_get hs)
theorem WA.meets_has {a : WA} (h : a.In) (m : List Bool) : (a.accept.any fun s => m.getD s.toNat false) = a.nf.has m := by
 rw [Bool.eq_iff_iff, List.any_eq_true, NF.has_iff]
 constructor
 ·rintro ⟨s, hs, hm⟩
  obtain ⟨q, rfl, hq⟩ := inN_nat (h.accept s hs)
  refine ⟨q, by rw [a.nf_n]; exact hq, by simpa using hm, ?_⟩
  rw [WA.nf_acc hq]
  simpa using hs
 ·rintro ⟨q, hq, hm, hA⟩
  rw [a.nf_n] at hq
  rw [WA.nf_acc hq] at hA
  exact ⟨(q : Int), by simpa using hA, by simpa using hm⟩
theorem WA.st_marks (a : WA) : a.nf.st = marksM a.n a.start := by unfold NF.st; rw [a.nf_n]; rfl
theorem word_nat {n : Int} : ∀ {w : List Int}, (∀ x ∈ w, inN n x = true) → ∃ u : List Nat, w = u.map (fun x : Nat => (x : Int)) ∧ okW n.toNat u
 | [], _ => ⟨[], rfl, okW.nil _⟩
 | x :: w, h => by
  obtain ⟨u, rfl, hu⟩ := word_nat (w := w) fun y hy => h y (List.mem_cons_of_mem _ hy)
  obtain ⟨k, rfl, hk⟩ := inN_nat (h x List.mem_cons_self)
  exact ⟨k :: u, rfl, hu.cons hk⟩
theorem fm_len1 {E : Type} {p : Nat → E → Bool} (hp : ∀ s s' e, p s e = true → p s' e = true → s = s') (ls : List Nat) (hn : ls.Nodup) : ∀ es : List E, (ls.flatMap fun s => es.filter (p s)).length ≤ es.length
 | [] => by
  have : (ls.flatMap fun s => ([] : List E).filter (p s)) = [] := List.flatMap_eq_nil_iff.2 fun _ _ => rfl
  rw [this]
  exact Nat.le_refl _
 | e :: es => by
  have ih := fm_len1 hp ls hn es
  have h1 : ∀ ls : List Nat, ls.Nodup → (ls.flatMap fun s => (e :: es).filter (p s)).length ≤ (ls.flatMap fun s => es.filter (p s)).length + 1 ∧ ((∀ s ∈ ls, p s e = false) → (ls.flatMap fun s => (e :: es).filter (p s)).length ≤ (ls.flatMap fun s => es.filter (p s)).length) := by
   intro ls
   induction ls with
   | nil => simp
   | cons s ls ih =>
    intro hn
    obtain ⟨hs, hn'⟩ := List.nodup_cons.1 hn
    obtain ⟨i1, i2⟩ := ih hn'
    rw [List.flatMap_cons, List.flatMap_cons, List.length_append, List.length_append, List.filter_cons]
    by_cases hpe : p s e = true
    ·have hno : ∀ s' ∈ ls, p s' e = false := fun s' hs' => by
      rw [Bool.eq_false_iff]
      intro h
      exact hs (by rw [hp s s' e hpe h]; exact hs')
     have := i2 hno
     rw [if_pos hpe, List.length_cons]
     refine ⟨by omega, fun h => ?_⟩
     rw [h s List.mem_cons_self] at hpe
     cases hpe
    ·rw [if_neg hpe]
     refine ⟨by omega, fun h => ?_⟩
     have := i2 fun s' hs' => h s' (List.mem_cons_of_mem _ hs')
     omega
  have := (h1 ls hn).1
  rw [List.length_cons]
  omega
theorem WA.ps_len (a : WA) : (a.nf.psS a.nf.n).length ≤ a.edges.length := by
 have h1 : ∀ s, s < a.n → (a.nf.psR s a.nf.L).length ≤ (a.edges.filter fun e => decide (e.frm = (s : Int))).length := fun s hs => by
  have e : a.nf.psR s a.nf.L = ((List.range a.L).flatMap fun x => (a.edges.filter fun e => decide (e.frm = (s : Int))).filter fun e => decide (e.letter = ((x : Nat) : Int))).map fun e => (s, e.to) := by
   unfold NF.psR
   rw [List.map_flatMap]
   show (List.range a.L).flatMap _ = _
   simp only [List.flatMap]
   congr 1
   refine List.map_congr_left fun x hx => ?_
   rw [a.nf_to hs (List.mem_range.1 hx)]
   unfold WA.to
   rw [List.filter_filter, List.map_map]
   congr 1
   refine List.filter_congr fun e _ => Bool.and_comm _ _
  rw [e, List.length_map]
  refine fm_len1 (p := fun (x : Nat) (e : Edg) => decide (e.letter = (x : Int))) (fun s s' e h1 h2 => ?_) _ List.nodup_range _
  have h1 := of_decide_eq_true h1
  have h2 := of_decide_eq_true h2
  omega
 have h2 : ∀ ls : List Nat, (∀ s ∈ ls, s < a.n) → (ls.flatMap fun s => a.nf.psR s a.nf.L).length ≤ (ls.flatMap fun s : Nat => a.edges.filter fun e => decide (e.frm = (s : Int))).length := by
  intro ls
  induction ls with
  | nil => simp
  | cons s ls ih =>
   intro h
   have := ih fun x hx => h x (List.mem_cons_of_mem _ hx)
   have := h1 s (h s List.mem_cons_self)
   rw [List.flatMap_cons, List.flatMap_cons, List.length_append, List.length_append]
   omega
 have h3 := h2 (List.range a.n) fun s hs => List.mem_range.1 hs
 have h4 := fm_len1 (p := fun (s : Nat) (e : Edg) => decide (e.frm = (s : Int))) (fun s s' e h1 h2 => by
  have h1 := of_decide_eq_true h1
  have h2 := of_decide_eq_true h2
  omega) (List.range a.n) List.nodup_range a.edges
 rw [a.nf_n]
 unfold NF.psS
 exact Nat.le_trans h3 h4
end Go.Proofs.YtakpmdmjbgipiaaGreatDoor
namespace Go.Proofs.YtakpmdmjbgipiaaGreatDoor
section
variable {L : Nat} {t : List (List Nat)} {ac : List Bool}
theorem plainW_n : (plainW L t ac).n = ac.length := by simp [WA.n, plainW]
theorem plainW_L : (plainW L t ac).L = L := by simp [WA.L, plainW]
theorem plainW_mem {e : Edg} : e ∈ (plainW L t ac).edges ↔ ∃ q x, q < ac.length ∧ x < L ∧ e = ⟨(q : Int), (x : Int), (dnx t q x : Int)⟩ := by
 simp only [plainW, List.mem_flatMap, List.mem_range, List.mem_map]
 constructor
 ·rintro ⟨q, hq, x, hx, rfl⟩
  exact ⟨q, x, hq, hx, rfl⟩
 ·rintro ⟨q, x, hq, hx, rfl⟩
  exact ⟨q, hq, x, hx, rfl⟩
theorem plainW_edges : (plainW L t ac).edges.length = ac.length * L := by
 have : ∀ ls : List Nat, (ls.flatMap fun q : Nat => (List.range L).map fun x : Nat => (⟨(q : Int), (x : Int), (dnx t q x : Int)⟩ : Edg)).length = ls.length * L := by
  intro ls
  induction ls with
  | nil => simp
  | cons q ls ih => rw [List.flatMap_cons, List.length_append, ih, List.length_map, List.length_range, List.length_cons, Nat.add_mul]; omega
 have h := this (List.range ac.length)
 rw [List.length_range] at h
 exact h
theorem setL_leK (m : List Bool) : (setL m).length ≤ m.length := by
 unfold setL
 rw [List.length_map]
 have := List.length_filter_le (fun q => m.getD q false) (List.range m.length)
 rwa [List.length_range] at this
theorem setL_inK {m : List Bool} {x : Int} (h : x ∈ setL m) : inN (m.length : Int) x = true := by
 obtain ⟨q, rfl, hq⟩ := mem_setL.1 h
 rw [inN_iff]
 have := lt_of_get hq
 omega
theorem plainW_in (h : DOK L t ac) : (plainW L t ac).In := by
 refine ⟨fun x hx => ?_, fun x hx => setL_inK hx, fun e he => ?_⟩
 ·have : x = 0 := by simpa [plainW] using hx
  subst this
  rw [inN_iff]
  have := h.pos
  exact ⟨Int.le_refl _, by show (0 : Int) < (ac.length : Int); omega⟩
 ·obtain ⟨q, x, hq, hx, rfl⟩ := plainW_mem.1 he
  have := h.lt hq hx
  exact ⟨inN_iff.2 ⟨Int.natCast_nonneg q, by show (q : Int) < (ac.length : Int); omega⟩, inN_iff.2 ⟨Int.natCast_nonneg x, by show (x : Int) < (L : Int); omega⟩, inN_iff.2 ⟨Int.natCast_nonneg (dnx t q x), by show (dnx t q x : Int) < (ac.length : Int); omega⟩⟩
theorem plainW_ok (h : DOK L t ac) (h1 : 1 ≤ L) (h8 : L ≤ 8) (hn : ac.length ≤ 400) : (plainW L t ac).ok = true :=
 WA.ok_iff.2 ⟨⟨by show (1 : Int) ≤ (L : Int); omega, by show (L : Int) ≤ 8; omega, by show (0 : Int) ≤ (ac.length : Int); omega, by show (ac.length : Int) ≤ 400; omega⟩, plainW_in h⟩
theorem plainW_to {s x : Nat} (hs : s < ac.length) (hx : x < L) {y : Int} : y ∈ (plainW L t ac).nf.to s x ↔ y = (dnx t s x : Int) := by
  rw [WA.nf_to _ (by rw [plainW_n]; exact hs) (by rw [plainW_L]; exact hx), WA.mem_to]
  constructor
  · rintro ⟨e, he, h1, h2, rfl⟩
    obtain ⟨q, z, hq, hz, rfl⟩ := plainW_mem.1 he
    have e1 : q = s := by have : (q : Int) = (s : Int) := h1
                          omega
    have e2 : z = x := by have : (z : Int) = (x : Int) := h2
                          omega
    rw [e1, e2]
  · rintro rfl
    exact ⟨_, plainW_mem.2 ⟨s, x, hs, hx, rfl⟩, rfl, rfl, rfl⟩
theorem marks1_get {n q s : Nat} (hs : s < n) : (marksM n [(q : Int)]).getD s false = decide (s = q) := by
 rw [getD_some (marksM_get hs)]
 by_cases h : s = q
 ·simp [h]
 ·have : (s : Int) ≠ (q : Int) := by omega
  simp [h, this]
theorem plainW_after {q x : Nat} (hq : q < ac.length) (hx : x < L) : (plainW L t ac).nf.after (marksM ac.length [(q : Int)]) x = marksM ac.length [(dnx t q x : Int)] := by
 have hn : (plainW L t ac).nf.n = ac.length := by rw [WA.nf_n, plainW_n]
 apply List.ext_getElem?
 intro y
 rcases Nat.lt_or_ge y ac.length with hy | hy
 ·rw [marksM_get hy]
  unfold NF.after
  rw [hn, List.getElem?_map, List.getElem?_range hy]
  simp only [Option.map_some]
  congr 1
  rw [Bool.eq_iff_iff, List.any_eq_true]
  constructor
  ·rintro ⟨s, hs, h1⟩
   have hs := List.mem_range.1 hs
   rw [marks1_get hs] at h1
   simp only [Bool.and_eq_true, decide_eq_true_eq] at h1
   obtain ⟨rfl, h1⟩ := h1
   rw [plainW_to hs hx] at h1
   simpa using h1
  ·intro h1
   refine ⟨q, List.mem_range.2 hq, ?_⟩
   rw [marks1_get hq]
   simp only [decide_true, Bool.true_and, decide_eq_true_eq]
   rw [plainW_to hq hx]
   simpa using h1
 ·rw [List.getElem?_eq_none (by rw [NF.after_len, hn]; exact hy), List.getElem?_eq_none (by rw [marksM_len]; exact hy)]
theorem plainW_st : (plainW L t ac).nf.st = marksM ac.length [((0 : Nat) : Int)] := by
 rw [WA.st_marks, plainW_n]; rfl
theorem plainW_run (h : DOK L t ac) : ∀ (w : List Nat) (q : Nat), okW L w → q < ac.length → runW (plainW L t ac).nf.after (marksM ac.length [(q : Int)]) w = marksM ac.length [((runW (dnx t) q w : Nat) : Int)]
 | [], _, _, _ => rfl
 | x :: w, q, hw, hq => by
  have hx := hw x List.mem_cons_self
  show runW _ ((plainW L t ac).nf.after _ x) w = marksM _ [((runW (dnx t) (dnx t q x) w : Nat) : Int)]
  rw [plainW_after hq hx]
  exact plainW_run h w _ (fun y hy => hw y (List.mem_cons_of_mem _ hy)) (h.lt hq hx)
theorem plainW_has {q : Nat} (hq : q < ac.length) : (plainW L t ac).nf.has (marksM ac.length [(q : Int)]) = dac ac q := by
 have hn : (plainW L t ac).n = ac.length := plainW_n
 have hacc : ∀ s, s < ac.length → (plainW L t ac).nf.acc.getD s false = dac ac s := fun s hs => by
  rw [WA.nf_acc (by rw [hn]; exact hs)]
  obtain ⟨b, hb⟩ := get_lt hs
  unfold dac
  rw [getD_some hb]
  have : ((s : Int) ∈ (plainW L t ac).accept) ↔ b = true := by
   show (s : Int) ∈ setL ac ↔ _
   rw [mem_setL]
   constructor
   ·rintro ⟨r, hr, h⟩
    have : s = r := by omega
    subst this
    exact Option.some.inj (hb.symm.trans h)
   ·rintro rfl
    exact ⟨s, rfl, hb⟩
  by_cases h : b = true
  ·rw [h]; simpa using this.2 h
  ·have hf : b = false := by simpa using h
   rw [hf]
   simp only [decide_eq_false_iff_not]
   exact fun hm => h (this.1 hm)
 rw [Bool.eq_iff_iff, NF.has_iff, WA.nf_n, hn]
 constructor
 ·rintro ⟨s, hs, h1, h2⟩
  rw [marks1_get hs] at h1
  have : s = q := by simpa using h1
  subst this
  rwa [hacc s hs] at h2
 ·intro h
  exact ⟨q, hq, by rw [marks1_get hq]; simp, by rw [hacc q hq]; exact h⟩
theorem plainW_lang (h : DOK L t ac) {w : List Nat} (hw : okW L w) : (plainW L t ac).lang w = dac ac (runW (dnx t) 0 w) := by
 unfold WA.lang NF.lang
 rw [plainW_st, plainW_run h w 0 hw h.pos, plainW_has (h.run hw)]
theorem plainW_large (h : DOK L t ac) {k : Nat} (hk : ac.length ≤ k) : ¬ (plainW L t ac).nf.Large k := by
 rintro ⟨i, l, hE, hl⟩
 have hL : (plainW L t ac).nf.L = L := plainW_L (t := t) (ac := ac)
 rw [hL, plainW_st] at hE
 have hinj : ∀ q q', q < ac.length → q' < ac.length → marksM ac.length [(q : Int)] = marksM ac.length [(q' : Int)] → q = q' := fun q q' hq hq' e => by
  have := marks1_get (q := q') hq
  rw [← e, marks1_get hq] at this
  simpa using this
 obtain ⟨m, hm, hF⟩ := Exp.rel (R := fun (s : List Bool) (q : Nat) => q < ac.length ∧ s = marksM ac.length [(q : Int)]) (δ' := dnx t) (t0 := 0) (fun a b a' b' h1 h2 => by
  obtain ⟨h1, rfl⟩ := h1
  obtain ⟨h2, rfl⟩ := h2
  exact ⟨fun e => hinj _ _ h1 h2 e, fun e => by rw [e]⟩) ⟨h.pos, rfl⟩ (fun s q x hx hs => by
  obtain ⟨hq, rfl⟩ := hs
  exact ⟨h.lt hq hx, plainW_after hq hx⟩) hE
 have hlen := sub_len m (List.range ac.length) hm.inv.nodup fun q hq => by
  obtain ⟨s, _, hs, _⟩ := hF.right hq
  exact List.mem_range.2 hs
 rw [List.length_range] at hlen
 have := hF.length
 omega
end
end Go.Proofs.YtakpmdmjbgipiaaGreatDoor
namespace Go.Proofs.YtakpmdmjbgipiaaGreatDoor
structure Mv where
 frm : Int
 inn : Int
 out : Int
 to : Int
structure TR where
 letters : Int
 states : Int
 start : List Int
 accept : List Int
 moves : List Mv
def TR.moveB (t : TR) (e : Mv) : Bool := inN t.states e.frm && inN t.states e.to && (inN t.letters e.inn && inN t.letters e.out)
def TR.head (t : TR) : Bool := decide (1 ≤ t.letters) && decide (t.letters ≤ 8) && decide (0 ≤ t.states) && decide (t.states ≤ 400)
def TR.ok (t : TR) : Bool := t.head && t.start.all (inN t.states) && t.accept.all (inN t.states) && t.moves.all t.moveB
structure TR.In (t : TR) : Prop where
 start : ∀ x ∈ t.start, inN t.states x = true
 accept : ∀ x ∈ t.accept, inN t.states x = true
 move : ∀ e ∈ t.moves, inN t.states e.frm = true ∧ inN t.letters e.inn = true ∧ inN t.letters e.out = true ∧ inN t.states e.to = true
theorem TR.ok_iff {t : TR} : t.ok = true ↔ (1 ≤ t.letters ∧ t.letters ≤ 8 ∧ 0 ≤ t.states ∧ t.states ≤ 400) ∧ t.In := by
 simp only [TR.ok, TR.head, Bool.and_eq_true, decide_eq_true_eq, List.all_eq_true, TR.moveB]
 constructor
 ·rintro ⟨⟨⟨⟨⟨⟨h1, h2⟩, h3⟩, h4⟩, h5⟩, h6⟩, h7⟩
  exact ⟨⟨h1, h2, h3, h4⟩, h5, h6, fun e he => ⟨(h7 e he).1.1, (h7 e he).2.1, (h7 e he).2.2, (h7 e he).1.2⟩⟩
 ·rintro ⟨⟨h1, h2, h3, h4⟩, h5, h6, h7⟩
  exact ⟨⟨⟨⟨⟨⟨h1, h2⟩, h3⟩, h4⟩, h5⟩, h6⟩, fun e he => ⟨⟨(h7 e he).1, (h7 e he).2.2.2⟩, (h7 e he).2.1, (h7 e he).2.2.1⟩⟩
def TR.n (t : TR) : Nat := t.states.toNat
def TR.L (t : TR) : Nat := t.letters.toNat
def TR.nextM (t : TR) (m : List Bool) (x y : Int) (k : Nat) : List Bool := (List.range t.n).map fun q : Nat => (t.moves.take k).any fun e => m.getD e.frm.toNat false && decide (e.inn = x) && decide (e.out = y) && decide (e.to = (q : Int))
theorem TR.nextM_len (t : TR) (m : List Bool) (x y : Int) (k : Nat) : (t.nextM m x y k).length = t.n := by simp [TR.nextM]
theorem TR.nextM_get {t : TR} {m : List Bool} {x y : Int} {k q : Nat} (hq : q < t.n) : (t.nextM m x y k)[q]? = some ((t.moves.take k).any fun e => m.getD e.frm.toNat false && decide (e.inn = x) && decide (e.out = y) && decide (e.to = (q : Int))) := by
 unfold TR.nextM
 rw [List.getElem?_map, List.getElem?_range hq]
 rfl
theorem TR.nextM_zero (t : TR) (m : List Bool) (x y : Int) : t.nextM m x y 0 = List.replicate t.n false := by
 apply List.ext_getElem?
 intro q
 rcases Nat.lt_or_ge q t.n with hq | hq
 ·rw [nextM_get hq, List.getElem?_replicate, if_pos hq]; simp
 ·rw [List.getElem?_eq_none (by rw [nextM_len]; exact hq), List.getElem?_eq_none (by simpa using hq)]
theorem TR.nextM_step {t : TR} {m : List Bool} {x y : Int} {k : Nat} {e : Mv} (he : t.moves[k]? = some e) (ht : 0 ≤ e.to) : t.nextM m x y (k + 1) = if m.getD e.frm.toNat false && decide (e.inn = x) && decide (e.out = y) then (t.nextM m x y k).set e.to.toNat true else t.nextM m x y k := by
 apply List.ext_getElem?
 intro q
 rcases Nat.lt_or_ge q t.n with hq | hq
 ·rw [nextM_get hq, List.take_add_one, he, List.any_append]
  simp only [Option.toList_some, List.any_cons, List.any_nil, Bool.or_false]
  rcases hc : (m.getD e.frm.toNat false && decide (e.inn = x) && decide (e.out = y)) with _ | _
  ·rw [if_neg (by decide), nextM_get hq]; simp
  ·rw [if_pos rfl, List.getElem?_set, nextM_len]
   by_cases hqe : e.to.toNat = q
   ·rw [if_pos hqe, if_pos (by omega)]
    have : e.to = (q : Int) := by omega
    simp [this]
   ·rw [if_neg hqe, nextM_get hq]
    have : decide (e.to = (q : Int)) = false := by simp; omega
    simp [this]
 ·rw [List.getElem?_eq_none (by rw [nextM_len]; exact hq), List.getElem?_eq_none]
  split <;> simp [nextM_len, hq]
def TR.setK (t : TR) (u v : List Int) (k : Nat) : List Bool := ((u.zip v).take k).foldl (fun m p => t.nextM m p.1 p.2 t.moves.length) (marksM t.n t.start)
theorem TR.setK_len (t : TR) (u v : List Int) (k : Nat) : (t.setK u v k).length = t.n := by
 have : ∀ (l : List (Int × Int)) (m : List Bool), m.length = t.n → (l.foldl (fun m p => t.nextM m p.1 p.2 t.moves.length) m).length = t.n := by
  intro l
  induction l with
  | nil => exact fun _ h => h
  | cons p l ih => exact fun m _ => ih _ (t.nextM_len _ _ _ _)
 exact this _ _ (marksM_len _ _)
theorem TR.setK_step {t : TR} {u v : List Int} {k : Nat} {x y : Int} (hx : u[k]? = some x) (hy : v[k]? = some y) : t.setK u v (k + 1) = t.nextM (t.setK u v k) x y t.moves.length := by
 have : (u.zip v)[k]? = some (x, y) := by rw [List.getElem?_zip_eq_some]; exact ⟨hx, hy⟩
 unfold TR.setK
 rw [List.take_add_one, this]
 simp
def TR.rel (t : TR) (u v : List Int) : Bool := t.accept.any fun s => (t.setK u v u.length).getD s.toNat false
end Go.Proofs.YtakpmdmjbgipiaaGreatDoor
namespace Go.Proofs.YtakpmdmjbgipiaaGreatDoor
open Go.RowKit
def encE (e : Edg) : Nat → Value
 | 0 => .int .i64 e.frm
 | 1 => .int .i64 e.letter
 | _ => .int .i64 e.to
def IsWA (w : World) (B : Nat) (v : Value) (a : WA) : Prop :=
 ∃ A1 c1 A2 c2 A3 c3, v = .agg #[.int .i64 a.letters, .int .i64 a.states, .slice A1 a.start.length c1, .slice A2 a.accept.length c2, .slice A3 a.edges.length c3] ∧
  Sl w B 1 encI A1 a.start ∧ Sl w B 1 encI A2 a.accept ∧ Sl w B 3 encE A3 a.edges ∧ a.start.length ≤ c1
theorem IsWA.keep {w w' : World} {B B' : Nat} {v : Value} {a : WA} (h : IsWA w B v a) (hk : ∀ p : Addr, p.block < B → w'.cell? p = w.cell? p) (hB : B ≤ B') : IsWA w' B' v a := by
 obtain ⟨A1, c1, A2, c2, A3, c3, e, h1, h2, h3, h4⟩ := h
 exact ⟨A1, c1, A2, c2, A3, c3, e, h1.keep hk hB, h2.keep hk hB, h3.keep hk hB, h4⟩
theorem IsWA.below {w w' : World} {B : Nat} {v : Value} {a : WA} (h : IsWA w B v a) (hb : Below B w w') : IsWA w' B v a := h.keep (fun _ hp => hb.cell hp) (Nat.le_refl _)
def VSl {D : Type} (R : World → Nat → Value → D → Prop) (w : World) (B : Nat) (A : Option Addr) (ds : List D) : Prop :=
 ds.length ≤ 9223372036854775807 ∧ (ds ≠ [] → ∃ b off, A = some ⟨b, off, none⟩ ∧ b < B ∧ ∀ k d, ds[k]? = some d → ∃ v, w.cell? ⟨b, off + k, none⟩ = some v ∧ R w B v d)
def KeepR {D : Type} (R : World → Nat → Value → D → Prop) : Prop := ∀ {w w' : World} {B B' : Nat} {v : Value} {d : D}, R w B v d → (∀ p : Addr, p.block < B → w'.cell? p = w.cell? p) → B ≤ B' → R w' B' v d
theorem VSl.keep {D : Type} {R : World → Nat → Value → D → Prop} (hR : KeepR R) {w w' : World} {B B' : Nat} {A : Option Addr} {ds : List D} (h : VSl R w B A ds) (hk : ∀ p : Addr, p.block < B → w'.cell? p = w.cell? p) (hB : B ≤ B') : VSl R w' B' A ds :=
 ⟨h.1, fun hn => by
  obtain ⟨b, off, e, hb, hc⟩ := h.2 hn
  refine ⟨b, off, e, by omega, fun k d hd => ?_⟩
  obtain ⟨v, h1, h2⟩ := hc k d hd
  exact ⟨v, (hk _ hb).trans h1, hR h2 hk hB⟩⟩
theorem VSl.at {D : Type} {R : World → Nat → Value → D → Prop} {w : World} {B : Nat} {A : Option Addr} {ds : List D} (h : VSl R w B A ds) {k : Nat} {d : D} (hk : ds[k]? = some d) :
  ∃ b off v, A = some ⟨b, off, none⟩ ∧ b < B ∧ w.cell? ⟨b, off + k, none⟩ = some v ∧ R w B v d := by
 obtain ⟨b, off, e, hb, hc⟩ := h.2 (by rintro rfl; simp at hk)
 obtain ⟨v, h1, h2⟩ := hc k d hk
 exact ⟨b, off, v, e, hb, h1, h2⟩
def R1 (w : World) (B : Nat) (v : Value) (l : List Int) : Prop := ∃ A c, v = .slice A l.length c ∧ Sl w B 1 encI A l
theorem R1.keep : KeepR R1 := by
 rintro w w' B B' v d ⟨A, c, e, h⟩ hk hB
 exact ⟨A, c, e, h.keep hk hB⟩
def natL (l : List Nat) : List Int := l.map fun x : Nat => (x : Int)
def R1n (w : World) (B : Nat) (v : Value) (l : List Nat) : Prop := R1 w B v (natL l)
theorem R1n.keep : KeepR R1n := fun h hk hB => R1.keep h hk hB
def R2 (w : World) (B : Nat) (v : Value) (t : List (List Int)) : Prop := ∃ A c, v = .slice A t.length c ∧ VSl R1 w B A t
theorem R2.keep : KeepR R2 := by
 rintro w w' B B' v d ⟨A, c, e, h⟩ hk hB
 exact ⟨A, c, e, VSl.keep (@R1.keep) h hk hB⟩
def IsNF (w : World) (B : Nat) (v : Value) (a : NF) : Prop :=
 ∃ A1 c1 A2 c2 A3 c3, v = .agg #[.int .i64 (a.L : Int), .slice A1 a.nx.length c1, .slice A2 a.start.length c2, .slice A3 a.acc.length c3] ∧
  VSl R2 w B A1 a.nx ∧ Sl w B 1 encI A2 a.start ∧ Sl w B 1 encB A3 a.acc ∧ a.start.length ≤ c2
theorem IsNF.keep {w w' : World} {B B' : Nat} {v : Value} {a : NF} (h : IsNF w B v a) (hk : ∀ p : Addr, p.block < B → w'.cell? p = w.cell? p) (hB : B ≤ B') : IsNF w' B' v a := by
 obtain ⟨A1, c1, A2, c2, A3, c3, e, h1, h2, h3, h4⟩ := h
 exact ⟨A1, c1, A2, c2, A3, c3, e, VSl.keep (@R2.keep) h1 hk hB, h2.keep hk hB, h3.keep hk hB, h4⟩
theorem IsNF.below {w w' : World} {B : Nat} {v : Value} {a : NF} (h : IsNF w B v a) (hb : Below B w w') : IsNF w' B v a := h.keep (fun _ hp => hb.cell hp) (Nat.le_refl _)
def IsDF (w : World) (B : Nat) (v : Value) (t : List (List Nat)) (ac : List Bool) : Prop :=
 ∃ A1 c1 A2 c2, v = .agg #[.slice A1 t.length c1, .slice A2 ac.length c2] ∧ VSl R1n w B A1 t ∧ Sl w B 1 encB A2 ac
theorem IsDF.keep {w w' : World} {B B' : Nat} {v : Value} {t : List (List Nat)} {ac : List Bool} (h : IsDF w B v t ac) (hk : ∀ p : Addr, p.block < B → w'.cell? p = w.cell? p) (hB : B ≤ B') : IsDF w' B' v t ac := by
 obtain ⟨A1, c1, A2, c2, e, h1, h2⟩ := h
 exact ⟨A1, c1, A2, c2, e, VSl.keep (@R1n.keep) h1 hk hB, h2.keep hk hB⟩
theorem IsDF.below {w w' : World} {B : Nat} {v : Value} {t : List (List Nat)} {ac : List Bool} (h : IsDF w B v t ac) (hb : Below B w w') : IsDF w' B v t ac := h.keep (fun _ hp => hb.cell hp) (Nat.le_refl _)
theorem own_slI {w : World} {base n B : Nat} {e : TypeId} {v : Value} {l : List Int} (h : w.ownsRow base e 1 v n (l.map (Value.int .i64))) (hl : l.length = n) (hB : w.heap.size ≤ B) (hm : n ≤ 9223372036854775807) : R1 w B v l := by
 subst hl
 rcases h.2 with ⟨rfl, h0⟩ | ⟨g, cap, cur, rfl, hb, hh, hc, hs, hz, ht⟩
 ·have : l = [] := by simpa using h0
  subst this
  exact ⟨none, 0, rfl, Sl.nil rfl⟩
 ·refine ⟨_, cap, rfl, by omega, fun _ => ⟨g, 0, rfl, ?_, fun k d hd j hj => ?_⟩⟩
  ·have := (Array.getElem?_eq_some_iff.1 hh).1; omega
  ·have hj0 : j = 0 := by omega
   subst hj0
   rw [cell_of_row w g _ cur e (0, 0) hh]
   have hk := lt_of_get hd
   have : (l.map (Value.int .i64))[k]? = some (.int .i64 d) := by rw [List.getElem?_map, hd]; rfl
   rw [← ht, List.getElem?_take] at this
   split at this
   ·simpa [encI] using this
   ·cases this
theorem own_slB {w : World} {base n B : Nat} {e : TypeId} {v : Value} {l : List Bool} (h : w.ownsRow base e 1 v n (l.map Value.bool)) (hl : l.length = n) (hB : w.heap.size ≤ B) (hm : n ≤ 9223372036854775807) : ∃ A c, v = .slice A l.length c ∧ Sl w B 1 encB A l := by
 subst hl
 rcases h.2 with ⟨rfl, h0⟩ | ⟨g, cap, cur, rfl, hb, hh, hc, hs, hz, ht⟩
 ·have : l = [] := by simpa using h0
  subst this
  exact ⟨none, 0, rfl, Sl.nil rfl⟩
 ·refine ⟨_, cap, rfl, by omega, fun _ => ⟨g, 0, rfl, ?_, fun k d hd j hj => ?_⟩⟩
  ·have := (Array.getElem?_eq_some_iff.1 hh).1; omega
  ·have hj0 : j = 0 := by omega
   subst hj0
   rw [cell_of_row w g _ cur e (0, 0) hh]
   have hk := lt_of_get hd
   have : (l.map Value.bool)[k]? = some (.bool d) := by rw [List.getElem?_map, hd]; rfl
   rw [← ht, List.getElem?_take] at this
   split at this
   ·simpa [encB] using this
   ·cases this
end Go.Proofs.YtakpmdmjbgipiaaGreatDoor
namespace Go.Proofs.YtakpmdmjbgipiaaGreatDoor
open Go.RowKit
theorem all_take_succ {D : Type} {p : D → Bool} {l : List D} {k : Nat} {x : D} (hx : l[k]? = some x) (h : (l.take k).all p = true) (hp : p x = true) : (l.take (k + 1)).all p = true := by
 rw [List.take_add_one, hx]; simp [hp]; simpa using h
theorem all_false {D : Type} {p : D → Bool} {l : List D} {k : Nat} {x : D} (hx : l[k]? = some x) (hp : p x = false) : l.all p = false := by
 rw [List.all_eq_false]; exact ⟨x, List.mem_of_getElem? hx, by simp [hp]⟩
theorem all_done {D : Type} {p : D → Bool} {l : List D} {k : Nat} (hk : l.length ≤ k) (h : (l.take k).all p = true) : l.all p = true := by
 rwa [List.take_of_length_le hk] at h
theorem foldl_take {A B : Type} (f : A → B → A) (a : A) (l : List B) (k : Nat) (x : B) (h : l[k]? = some x) : (l.take (k + 1)).foldl f a = f ((l.take k).foldl f a) x := by
 rw [List.take_add_one, h]; simp
theorem foldl_all {A B : Type} (f : A → B → A) (a : A) (l : List B) (k : Nat) (h : l.length ≤ k) : (l.take k).foldl f a = l.foldl f a := by rw [List.take_of_length_le h]
theorem take_snoc {D : Type} {l : List D} {k : Nat} {x : D} (h : l[k]? = some x) : l.take (k + 1) = l.take k ++ [x] := by rw [List.take_add_one, h]; rfl
theorem map_get {D E : Type} {f : D → E} {l : List D} {k : Nat} {x : D} (h : l[k]? = some x) : (l.map f)[k]? = some (f x) := by rw [List.getElem?_map, h]; rfl
theorem F2.of_get {S T : Type} {R : S → T → Prop} : ∀ {l : List S} {m : List T}, l.length = m.length → (∀ (i : Nat) (a : S) (b : T), l[i]? = some a → m[i]? = some b → R a b) → F2 R l m
 | [], [], _, _ => .nil
 | [], _ :: _, h, _ => absurd h (by simp)
 | _ :: _, [], h, _ => absurd h (by simp)
 | a :: l, b :: m, h, hr => .cons (hr 0 a b rfl rfl) (F2.of_get (by simpa using h) fun i x y hx hy => hr (i + 1) x y (by simpa using hx) (by simpa using hy))
theorem F2.imp {S T : Type} {R R' : S → T → Prop} {l : List S} {m : List T} (h : F2 R l m) (hi : ∀ a b, R a b → R' a b) : F2 R' l m := by
 induction h with
 | nil => exact .nil
 | cons h1 _ ih => exact .cons (hi _ _ h1) ih
theorem F2.at {S T : Type} {R : S → T → Prop} {l : List S} {m : List T} (h : F2 R l m) {i : Nat} {b : T} (hb : m[i]? = some b) : ∃ a, l[i]? = some a ∧ R a b := by
 obtain ⟨a, ha⟩ := get_lt (l := l) (i := i) (by rw [h.length]; exact lt_of_get hb)
 exact ⟨a, ha, h.get ha hb⟩
theorem drewB (w : World) : Below w.heap.size w w.drew := ⟨rfl, rfl, rfl, Nat.le_refl _, fun _ _ => rfl⟩
theorem box_blk (w : World) (cs : Array Value) (t : TypeId) : ∃ w1, w.alloc (.cells cs t) = w1 ∧ Below w.heap.size w w1 ∧ Blk w1 w.heap.size t cs ∧ Kept w w1 (fun _ => False) :=
 ⟨_, rfl, (Below.refl _ _).alloc (Nat.le_refl _) _, Blk.new _ _ _, (Kept.refl _ _).alloc _⟩
theorem Blk.below {w w' : World} {g : Nat} {t : TypeId} {cs : Array Value} (h : Blk w g t cs) (hb : Below w.heap.size w w') : Blk w' g t cs := h.kept (Kept.of_below hb fun _ => False) id
theorem Blk.at {w w' : World} {g B : Nat} {t : TypeId} {cs : Array Value} (h : Blk w g t cs) (hg : g < B) (hb : Below B w w') : Blk w' g t cs := by
 unfold Blk at h ⊢
 rw [hb.block g hg]
 exact h
theorem madeCells_one (z : Value) (n : Nat) : madeCells #[z] (n * 1) = Array.replicate n z := by
 apply Array.ext
 ·simp [madeCells]
 ·intro i h1 h2
  simp [madeCells, Nat.mod_one]
theorem mk_facts {P : Program} {t e bytes : Nat} {z : Value} (ht : P.underlying t = some (.slice e)) (hi : (P.info? e).map (fun i => (i.zero, i.size, i.bytes)) = some (some z, 1, bytes)) (hz : z.cells = #[z]) (hb : bytes ≤ 200)
  (w : World) (n : Nat) (hn : n ≤ 250000) :
  ∃ g w1, (Instr.makeSlice t (.int .i64 n) (.int .i64 n)).run P w = .ok (.slice (some ⟨g, 0, none⟩) n n) w1 ∧ Blk w1 g e (Array.replicate n z) ∧ Below w.heap.size w w1 ∧ w.heap.size ≤ g := by
 obtain ⟨i, h1, h2, h3, h4⟩ := info_parts hi
 have hb' : bytes * n ≤ 200 * 250000 := Nat.mul_le_mul hb hn
 have hb2 : (i.bytes : Int) * (n : Int) ≤ 281474976710656 := by
  rw [h4, ← Int.natCast_mul]; omega
 have hr := run_makeSlice (P := P) w t e i z ht h1 h2 .i64 .i64 n n (by omega) (Int.le_refl _) (by rw [h3]; simp; omega) hb2 (by omega)
 simp only [Int.toNat_natCast] at hr
 rw [h3, hz, madeCells_one] at hr
 exact ⟨_, _, hr, Blk.new _ _ _, (Below.refl _ _).alloc (Nat.le_refl _) _, Nat.le_refl _⟩
theorem info3 : (Tryz.prog.info? 3).map (fun i => (i.zero, i.size, i.bytes)) = some (some (.int .i64 0), 1, 8) := by kernel_rfl
theorem info4 : (Tryz.prog.info? 4).map (fun i => (i.zero, i.size, i.bytes)) = some (some (.bool false), 1, 1) := by kernel_rfl
theorem info22 : (Tryz.prog.info? 22).map (fun i => (i.zero, i.size, i.bytes)) = some (some (.slice none 0 0), 1, 24) := by kernel_rfl
theorem info50 : (Tryz.prog.info? 49).map (fun i => (i.zero, i.size, i.bytes)) = some (some (.slice none 0 0), 1, 24) := by kernel_rfl
theorem mk_ints (w : World) (n : Nat) (hn : n ≤ 250000) :
  ∃ g w1, (Instr.makeSlice 22 (.int .i64 n) (.int .i64 n)).run Tryz.prog w = .ok (.slice (some ⟨g, 0, none⟩) n n) w1 ∧ Blk w1 g 3 (Array.replicate n (.int .i64 0)) ∧ Below w.heap.size w w1 ∧ w.heap.size ≤ g :=
 mk_facts Tryz.underlying22 info3 rfl (by omega) w n hn
theorem mk_bools (w : World) (n : Nat) (hn : n ≤ 250000) :
  ∃ g w1, (Instr.makeSlice 50 (.int .i64 n) (.int .i64 n)).run Tryz.prog w = .ok (.slice (some ⟨g, 0, none⟩) n n) w1 ∧ Blk w1 g 4 (Array.replicate n (.bool false)) ∧ Below w.heap.size w w1 ∧ w.heap.size ≤ g :=
 mk_facts Tryz.underlying50 info4 rfl (by omega) w n hn
theorem mk_rows (w : World) (n : Nat) (hn : n ≤ 250000) :
  ∃ g w1, (Instr.makeSlice 49 (.int .i64 n) (.int .i64 n)).run Tryz.prog w = .ok (.slice (some ⟨g, 0, none⟩) n n) w1 ∧ Blk w1 g 22 (Array.replicate n (.slice none 0 0)) ∧ Below w.heap.size w w1 ∧ w.heap.size ≤ g :=
 mk_facts Tryz.underlying49 info22 rfl (by omega) w n hn
theorem mk_tabs (w : World) (n : Nat) (hn : n ≤ 250000) :
  ∃ g w1, (Instr.makeSlice 54 (.int .i64 n) (.int .i64 n)).run Tryz.prog w = .ok (.slice (some ⟨g, 0, none⟩) n n) w1 ∧ Blk w1 g 49 (Array.replicate n (.slice none 0 0)) ∧ Below w.heap.size w w1 ∧ w.heap.size ≤ g :=
 mk_facts Tryz.underlying54 info50 rfl (by omega) w n hn
theorem row3 : RowTy Tryz.prog 22 3 1 := rowTy_of Tryz.underlying22 info3 rfl (by omega) (by omega)
theorem row4 : RowTy Tryz.prog 50 4 1 := rowTy_of Tryz.underlying50 info4 rfl (by omega) (by omega)
theorem row22 : RowTy Tryz.prog 49 22 1 := rowTy_of Tryz.underlying49 info22 rfl (by omega) (by omega)
theorem repl_list (n : Nat) (z : Value) : Array.replicate n z = (List.replicate n z).toArray := by
 apply Array.ext'
 simp
theorem wpList_make {P : Program} {ops : Array Oper} {rest : List Oper} {o : Oper} {a : Act} {Q : Exit → Act → World → Prop} {w : World} {t e bytes sz : Nat} {z : Value} (ht : P.underlying t = some (.slice e)) (hi : (P.info? e).map (fun i => (i.zero, i.size, i.bytes)) = some (some z, sz, bytes)) (hb : bytes ≤ 200) (hsz : sz ≤ 80)
  (n : Nat) (hn : n ≤ 200000) (hgd : o.guard = none) (x y : Operand) (ho : o.op = .makeSlice t x y) (hx : a.eval x = .int .i64 n) (hy : a.eval y = .int .i64 n)
  (h : ∀ g w1, Blk w1 g e (madeCells z.cells (n * sz)) → Below w.heap.size w w1 → w.heap.size ≤ g → wpList P ops Q rest (a.put o.dst (.slice (some ⟨g, 0, none⟩) n n)) w1) : wpList P ops Q (o :: rest) a w := by
 refine wpList_plain hgd fun K hK => ?_
 obtain ⟨i, h1, h2, h3, h4⟩ := info_parts hi
 have hb' : bytes * n ≤ 200 * 200000 := Nat.mul_le_mul hb hn
 have hb2 : (i.bytes : Int) * (n : Int) ≤ 281474976710656 := by
  rw [h4, ← Int.natCast_mul]; omega
 have hs' : n * sz ≤ 200000 * 80 := Nat.mul_le_mul hn hsz
 have hs2 : ((n : Int).toNat) * i.size ≤ 16000000 := by rw [h3, Int.toNat_natCast]; omega
 have hr := run_makeSlice (P := P) w t e i z ht h1 h2 .i64 .i64 n n (by omega) (Int.le_refl _) (by omega) hb2 (by omega)
 simp only [Int.toNat_natCast] at hr
 rw [h3] at hr
 unfold Oper.wp execOp
 simp only [ho, hx, hy, Sem.run_bind, Sem.run_pure, Result.andThen_ok, hr]
 exact hK _ _ (h _ _ (Blk.new _ _ _) ((Below.refl _ _).alloc (Nat.le_refl _) _) (Nat.le_refl _))
section
variable {w w' : World} {base n size : Nat} {e : TypeId} {v : Value} {xs : List Value}
theorem own_get (h : w.ownsRow base e 1 v n xs) {k : Nat} {u : Value} (hk : xs[k]? = some u) : ∃ g cap, v = .slice (some ⟨g, 0, none⟩) n cap ∧ w.cell? ⟨g, k, none⟩ = some u := by
 obtain ⟨hl, hx⟩ := h
 have hkl := lt_of_get hk
 rcases hx with ⟨_, rfl⟩ | ⟨g, cap, cur, rfl, hb, hh, hc, hm, hs, ht⟩
 ·omega
 ·refine ⟨g, cap, rfl, ?_⟩
  rw [cell_of_row w g k cur e (0, 0) hh, ← hk, ← ht, List.getElem?_take]
  simp; omega
theorem own_base (h : w.ownsRow base e size v n xs) {k : Nat} (hk : v.ownBlock = some k) : base ≤ k := by
 rcases h.2 with ⟨rfl, _⟩ | ⟨g, cap, cur, rfl, hb, _⟩
 ·simp [Value.ownBlock] at hk
 ·have : g = k := by simpa [Value.ownBlock] using hk
  omega
theorem own_lt (h : w.ownsRow base e size v n xs) {k : Nat} (hk : v.ownBlock = some k) : k < w.heap.size := by
 rcases h.2 with ⟨rfl, _⟩ | ⟨g, cap, cur, rfl, hb, hh, _⟩
 ·simp [Value.ownBlock] at hk
 ·have : g = k := by simpa [Value.ownBlock] using hk
  subst this
  exact (Array.getElem?_eq_some_iff.1 hh).1
theorem own_nil : w.ownsRow base e size (.slice none 0 0) 0 [] := ⟨by simp, .inl ⟨rfl, rfl⟩⟩
theorem own_mono (h : w.ownsRow base e size v n xs) {base' : Nat} (hb : base' ≤ base) : w.ownsRow base' e size v n xs := by
 refine ⟨h.1, ?_⟩
 rcases h.2 with hx | ⟨g, cap, cur, h1, h2, rest⟩
 ·exact .inl hx
 ·exact .inr ⟨g, cap, cur, h1, by omega, rest⟩
theorem own_of_blk {g : Nat} {cs : Array Value} (h : Blk w g e cs) (hb : base ≤ g) (hn : cs.size = n) (hm : n ≤ 4000000) : w.ownsRow base e 1 (.slice (some ⟨g, 0, none⟩) n n) n cs.toList := by
 refine ⟨by simp [hn], .inr ⟨g, n, cs, rfl, hb, h, Nat.le_refl _, by unfold maxLen; omega, by omega, ?_⟩⟩
 rw [List.take_of_length_le (by simp [hn])]
theorem own_ty {X : Nat → Prop} (hk : Kept w w' X) (h : w.ownsRow base e size v n xs) (hX : ∀ g cs, X g → ¬ Blk w g e cs) : w'.ownsRow base e size v n xs :=
 hk.ownsRow h fun g hg hx => by
  rcases h.2 with ⟨rfl, _⟩ | ⟨g', cap, cur, rfl, _, hh, _⟩
  ·simp [Value.ownBlock] at hg
  ·have : g' = g := by simpa [Value.ownBlock] using hg
   subst this
   exact hX _ _ hx hh
theorem own_below (h : w.ownsRow base e size v n xs) (hb : Below w.heap.size w w') : w'.ownsRow base e size v n xs :=
 (Kept.of_below hb (fun _ => False)).ownsRow h fun _ _ => id
theorem not_blk {e' : TypeId} (h : w.ownsRow base e size v n xs) (hne : e ≠ e') : ∀ g cs, v.ownBlock = some g → ¬ Blk w g e' cs := fun _ _ hg hb => own_blk_ne h hb hne hg
end
def RowsI (w : World) (base : Nat) (N : Nat → Prop) (vs : List Value) (ds : List (List Int)) : Prop :=
 F2 (fun v d => w.ownsRow base 3 1 v d.length (d.map (Value.int .i64)) ∧ ∀ g, v.ownBlock = some g → N g) vs ds
theorem RowsI.nil {w : World} {base : Nat} {N : Nat → Prop} : RowsI w base N [] [] := F2.nil
theorem RowsI.keep {w w' : World} {base base' : Nat} {N N' X : Nat → Prop} {vs : List Value} {ds : List (List Int)} (h : RowsI w base N vs ds) (hk : Kept w w' X) (hX : ∀ g cs, N g → X g → ¬ Blk w g 3 cs) (hN : ∀ g, g < w.heap.size → N g → N' g) (hb : base' ≤ base) : RowsI w' base' N' vs ds :=
 h.imp fun v d ⟨h1, h2⟩ => ⟨own_mono (hk.ownsRow h1 fun g hg hx => by
  rcases h1.2 with ⟨rfl, _⟩ | ⟨g', cap, cur, rfl, _, hh, _⟩
  ·simp [Value.ownBlock] at hg
  ·have : g' = g := by simpa [Value.ownBlock] using hg
   subst this
   exact hX _ _ (h2 _ hg) hx hh) hb, fun g hg => hN g (own_lt h1 hg) (h2 g hg)⟩
theorem RowsI.snoc {w : World} {base : Nat} {N : Nat → Prop} {vs : List Value} {ds : List (List Int)} (h : RowsI w base N vs ds) {v : Value} {d : List Int} (h1 : w.ownsRow base 3 1 v d.length (d.map (Value.int .i64))) (h2 : ∀ g, v.ownBlock = some g → N g) : RowsI w base N (vs ++ [v]) (ds ++ [d]) := F2.snoc h ⟨h1, h2⟩
theorem RowsI.read {w : World} {base base' B n : Nat} {N : Nat → Prop} {vs : List Value} {ds : List (List Int)} {v : Value} (h : RowsI w base N vs ds) (hv : w.ownsRow base' 22 1 v n vs) (hn : n ≤ 4000000) (hB : w.heap.size ≤ B) (hl : ∀ d ∈ ds, d.length ≤ 4000000) : ∃ A c, v = .slice A ds.length c ∧ VSl R1 w B A ds := by
 have hlen : n = ds.length := by have := hv.1; rw [h.length] at this; omega
 subst hlen
 rcases hv.2 with ⟨rfl, h0⟩ | ⟨g, cap, cur, rfl, hb, hh, hc, hs, hz, ht⟩
 ·have : ds = [] := List.length_eq_zero_iff.1 h0
  subst this
  exact ⟨none, 0, rfl, by simp, fun h => absurd rfl h⟩
 ·refine ⟨_, cap, rfl, by omega, fun _ => ⟨g, 0, rfl, ?_, fun k d hd => ?_⟩⟩
  ·have := (Array.getElem?_eq_some_iff.1 hh).1; omega
  ·obtain ⟨u, hu, h1, _⟩ := F2.at h hd
   obtain ⟨g', cap', hv', hc'⟩ := own_get hv hu
   injection hv' with hv' _ _
   injection hv' with hv'
   injection hv' with hv'
   subst hv'
   exact ⟨u, by rw [Nat.zero_add]; exact hc', own_slI h1 rfl hB (by have := hl d (List.mem_of_getElem? hd); omega)⟩
end Go.Proofs.YtakpmdmjbgipiaaGreatDoor
