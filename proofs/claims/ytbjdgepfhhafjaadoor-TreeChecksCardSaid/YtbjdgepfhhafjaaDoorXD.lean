/-
  Part XD of a proof.
-/
import Derived.StillTailTactics
import Derived.Test.YtbjdgepfhhafjaaDoorXA
import Derived.Test.YtbjdgepfhhafjaaDoorXC
set_option maxHeartbeats 16000000
set_option maxRecDepth 100000
namespace Go.Proofs.YtbjdgepfhhafjaaDoor
inductive Tr where
 | leaf (x : Nat)
 | node (x : Nat) (s t : Tr)
def Tr.ok (L : Nat) : Tr → Prop
 | .leaf x => x < L
 | .node x s t => x < L ∧ s.ok L ∧ t.ok L
def runT {S : Type} (leaf : Nat → S) (br : Nat → S → S → S) : Tr → S
 | .leaf x => leaf x
 | .node x s t => br x (runT leaf br s) (runT leaf br t)
theorem reach_run {S : Type} {L : Nat} {leaf : Nat → S} {br : Nat → S → S → S} {s : S} : Reach L leaf br s ↔ ∃ t : Tr, t.ok L ∧ runT leaf br t = s := by
 constructor
 ·intro h
  induction h with
  | leaf x hx => exact ⟨.leaf x, hx, rfl⟩
  | br x a b hx _ _ iha ihb =>
   obtain ⟨t, ht, rfl⟩ := iha
   obtain ⟨u, hu, rfl⟩ := ihb
   exact ⟨.node x t u, ⟨hx, ht, hu⟩, rfl⟩
 ·rintro ⟨t, ht, rfl⟩
  induction t with
  | leaf x => exact .leaf x ht
  | node x s t ihs iht => exact .br x _ _ ht.1 (ihs ht.2.1) (iht ht.2.2)
def EqT (L : Nat) (Λ : Tr → Bool) : Nat → Tr → Tr → Prop
 | 0, t, u => Λ t = Λ u
 | r + 1, t, u => EqT L Λ r t u ∧ ∀ x, x < L → ∀ c : Tr, c.ok L → EqT L Λ r (.node x t c) (.node x u c) ∧ EqT L Λ r (.node x c t) (.node x c u)
theorem EqT.rfl' {L : Nat} {Λ : Tr → Bool} (r : Nat) : ∀ t, EqT L Λ r t t := by
 induction r with
 | zero => exact fun _ => rfl
 | succ r ih => exact fun t => ⟨ih t, fun x _ c _ => ⟨ih _, ih _⟩⟩
def EqS (L n : Nat) (br : Nat → Nat → Nat → Nat) (acc : Nat → Bool) : Nat → Nat → Nat → Prop
 | 0, p, q => acc p = acc q
 | r + 1, p, q => EqS L n br acc r p q ∧ ∀ x, x < L → ∀ k, k < n → EqS L n br acc r (br x p k) (br x q k) ∧ EqS L n br acc r (br x k p) (br x k q)
structure IsM (L n : Nat) (leaf : Nat → Nat) (br : Nat → Nat → Nat → Nat) : Prop where
 leaf_lt : ∀ x, x < L → leaf x < n
 br_lt : ∀ x p q, x < L → p < n → q < n → br x p q < n
 reach : ∀ q, q < n → Reach L leaf br q
section
variable {L n : Nat} {leaf : Nat → Nat} {br : Nat → Nat → Nat → Nat} {acc : Nat → Bool}
theorem IsM.run_lt (h : IsM L n leaf br) : ∀ t : Tr, t.ok L → runT leaf br t < n
 | .leaf x, ht => h.leaf_lt x ht
 | .node x s t, ht => h.br_lt x _ _ ht.1 (h.run_lt s ht.2.1) (h.run_lt t ht.2.2)
theorem IsM.eqS (h : IsM L n leaf br) (r : Nat) : ∀ t u : Tr, t.ok L → u.ok L → (EqT L (fun t => acc (runT leaf br t)) r t u ↔ EqS L n br acc r (runT leaf br t) (runT leaf br u)) := by
 induction r with
 | zero => exact fun t u _ _ => Iff.rfl
 | succ r ih =>
  intro t u ht hu
  constructor
  ·rintro ⟨h1, h2⟩
   refine ⟨(ih t u ht hu).1 h1, fun x hx k hk => ?_⟩
   obtain ⟨c, hc, rfl⟩ := reach_run.1 (h.reach k hk)
   obtain ⟨h3, h4⟩ := h2 x hx c hc
   exact ⟨(ih (.node x t c) (.node x u c) ⟨hx, ht, hc⟩ ⟨hx, hu, hc⟩).1 h3, (ih (.node x c t) (.node x c u) ⟨hx, hc, ht⟩ ⟨hx, hc, hu⟩).1 h4⟩
  ·rintro ⟨h1, h2⟩
   refine ⟨(ih t u ht hu).2 h1, fun x hx c hc => ?_⟩
   obtain ⟨h3, h4⟩ := h2 x hx _ (h.run_lt c hc)
   exact ⟨(ih (.node x t c) (.node x u c) ⟨hx, ht, hc⟩ ⟨hx, hu, hc⟩).2 h3, (ih (.node x c t) (.node x c u) ⟨hx, hc, ht⟩ ⟨hx, hc, hu⟩).2 h4⟩
end
theorem EqT.congr {L : Nat} {Λ Λ' : Tr → Bool} (hΛ : ∀ t : Tr, t.ok L → Λ t = Λ' t) (r : Nat) : ∀ t u : Tr, t.ok L → u.ok L → EqT L Λ r t u → EqT L Λ' r t u := by
 induction r with
 | zero => exact fun t u ht hu h => ((hΛ t ht).symm.trans h).trans (hΛ u hu)
 | succ r ih => exact fun t u ht hu h => ⟨ih t u ht hu h.1, fun x hx c hc => ⟨ih (.node x t c) (.node x u c) ⟨hx, ht, hc⟩ ⟨hx, hu, hc⟩ (h.2 x hx c hc).1, ih (.node x c t) (.node x c u) ⟨hx, hc, ht⟩ ⟨hx, hc, hu⟩ (h.2 x hx c hc).2⟩⟩
section
variable {S : Type} [DecidableEq S]
def leafL (L : Nat) (leaf : Nat → S) : List S := (List.range L).foldl (fun l x => meetL l (leaf x)) []
def stepB (br : Nat → S → S → S) (x : Nat) (l0 : List S) (a : S) (l : List S) : List S := l0.foldl (fun l b => meetL l (br x a b)) l
def stepA (br : Nat → S → S → S) (l0 : List S) (l : List S) (x : Nat) : List S := l0.foldl (fun l a => stepB br x l0 a l) l
def roundL (L : Nat) (br : Nat → S → S → S) (l0 : List S) : List S := (List.range L).foldl (stepA br l0) l0
def roundsL (L : Nat) (br : Nat → S → S → S) : Nat → List S → List S
 | 0, l => l
 | k + 1, l => roundsL L br k (roundL L br l)
def Disc (L : Nat) (leaf : Nat → S) (br : Nat → S → S → S) (l : List S) : Prop := (∃ k, l = roundsL L br k (leafL L leaf)) ∧ roundL L br l = l
end
inductive F2 {S T : Type} (R : S → T → Prop) : List S → List T → Prop
 | nil : F2 R [] []
 | cons {a b l m} : R a b → F2 R l m → F2 R (a :: l) (b :: m)
section
variable {S T : Type} {R : S → T → Prop}
theorem F2.length {l : List S} {m : List T} (h : F2 R l m) : l.length = m.length := by
 induction h with
 | nil => rfl
 | cons _ _ ih => simp [ih]
theorem F2.get {l : List S} {m : List T} (h : F2 R l m) : ∀ {i : Nat} {a : S} {b : T}, l[i]? = some a → m[i]? = some b → R a b := by
 induction h with
 | nil => intro i a b h; simp at h
 | cons h1 _ ih =>
  intro i a b ha hb
  cases i with
  | zero => simp at ha hb; subst ha hb; exact h1
  | succ i => simp at ha hb; exact ih ha hb
theorem F2.snoc {l : List S} {m : List T} (h : F2 R l m) {a : S} {b : T} (hab : R a b) : F2 R (l ++ [a]) (m ++ [b]) := by
 induction h with
 | nil => exact .cons hab .nil
 | cons h1 _ ih => exact .cons h1 ih
theorem F2.left {l : List S} {m : List T} (h : F2 R l m) {a : S} (ha : a ∈ l) : ∃ b, b ∈ m ∧ R a b := by
 induction h with
 | nil => cases ha
 | cons h1 _ ih =>
  rcases List.mem_cons.1 ha with rfl | ha
  ·exact ⟨_, List.mem_cons_self, h1⟩
  ·obtain ⟨b, hb, hR⟩ := ih ha
   exact ⟨b, List.mem_cons_of_mem _ hb, hR⟩
theorem F2.right {l : List S} {m : List T} (h : F2 R l m) {b : T} (hb : b ∈ m) : ∃ a, a ∈ l ∧ R a b := by
 induction h with
 | nil => cases hb
 | cons h1 _ ih =>
  rcases List.mem_cons.1 hb with rfl | hb
  ·exact ⟨_, List.mem_cons_self, h1⟩
  ·obtain ⟨a, ha, hR⟩ := ih hb
   exact ⟨a, List.mem_cons_of_mem _ ha, hR⟩
theorem F2.fold {A B : Type} {Q : A → B → Prop} {f : A → S → A} {g : B → T → B} {l : List S} {m : List T} (h : F2 R l m) (hs : ∀ x y a b, Q x y → R a b → Q (f x a) (g y b)) : ∀ {x : A} {y : B}, Q x y → Q (l.foldl f x) (m.foldl g y) := by
 induction h with
 | nil => exact fun hq => hq
 | cons h1 _ ih => exact fun hq => ih (hs _ _ _ _ hq h1)
end
theorem fold_rel {A B C : Type} {Q : A → B → Prop} {f : A → C → A} {g : B → C → B} : ∀ (l : List C), (∀ x y c, c ∈ l → Q x y → Q (f x c) (g y c)) → ∀ {x : A} {y : B}, Q x y → Q (l.foldl f x) (l.foldl g y)
 | [], _, _, _, hq => hq
 | c :: l, hs, x, y, hq => fold_rel l (fun x y d hd => hs x y d (List.mem_cons_of_mem _ hd)) (hs x y c List.mem_cons_self hq)
section
variable {S T : Type} [DecidableEq S] [DecidableEq T] {R : S → T → Prop}
def OneOne (R : S → T → Prop) : Prop := ∀ a b a' b', R a b → R a' b' → (a = a' ↔ b = b')
theorem F2.meet (hR : OneOne R) {l : List S} {m : List T} (h : F2 R l m) {a : S} {b : T} (hab : R a b) : F2 R (meetL l a) (meetL m b) := by
 have hi : a ∈ l ↔ b ∈ m := by
  constructor
  ·intro ha
   obtain ⟨b', hb', h1⟩ := h.left ha
   rwa [(hR a b a b' hab h1).1 rfl]
  ·intro hb
   obtain ⟨a', ha', h1⟩ := h.right hb
   rwa [(hR a b a' b hab h1).2 rfl]
 unfold meetL
 by_cases ha : a ∈ l
 ·rw [if_pos ha, if_pos (hi.1 ha)]; exact h
 ·rw [if_neg ha, if_neg (fun hb => ha (hi.2 hb))]; exact h.snoc hab
variable {L : Nat} {leaf : Nat → S} {br : Nat → S → S → S} {leaf' : Nat → T} {br' : Nat → T → T → T}
theorem leafL_rel (hR : OneOne R) (hl : ∀ x, x < L → R (leaf x) (leaf' x)) : F2 R (leafL L leaf) (leafL L leaf') :=
 fold_rel (Q := fun a b => F2 R a b) _ (fun _ _ x hx h => h.meet hR (hl x (List.mem_range.1 hx))) .nil
theorem roundL_rel (hR : OneOne R) (hb : ∀ x a b c d, x < L → R a c → R b d → R (br x a b) (br' x c d)) {l : List S} {m : List T} (h : F2 R l m) : F2 R (roundL L br l) (roundL L br' m) :=
 fold_rel (Q := fun a b => F2 R a b) _ (fun _ _ x hx h1 => h.fold (Q := fun a b => F2 R a b) (fun _ _ a c h2 hac => h.fold (Q := fun a b => F2 R a b) (fun _ _ b d h3 hbd => h3.meet hR (hb x a b c d (List.mem_range.1 hx) hac hbd)) h2) h1) h
theorem roundsL_rel (hR : OneOne R) (hb : ∀ x a b c d, x < L → R a c → R b d → R (br x a b) (br' x c d)) (k : Nat) : ∀ {l : List S} {m : List T}, F2 R l m → F2 R (roundsL L br k l) (roundsL L br' k m) := by
 induction k with
 | zero => exact fun h => h
 | succ k ih => exact fun h => ih (roundL_rel hR hb h)
omit [DecidableEq T] in
theorem roundsL_fix {l : List S} (h : roundL L br l = l) (k : Nat) : roundsL L br k l = l := by
 induction k with
 | zero => rfl
 | succ k ih => rw [roundsL, h, ih]
omit [DecidableEq T] in
theorem roundsL_add (j k : Nat) : ∀ l : List S, roundsL L br (j + k) l = roundsL L br k (roundsL L br j l) := by
 induction j with
 | zero => intro l; rw [Nat.zero_add]; rfl
 | succ j ih => intro l; rw [Nat.succ_add]; exact ih _
omit [DecidableEq T] in
theorem roundsL_succ' (k : Nat) (l : List S) : roundsL L br (k + 1) l = roundL L br (roundsL L br k l) := roundsL_add k 1 l
omit [DecidableEq T] in
theorem Disc.unique {l l' : List S} (h : Disc L leaf br l) (h' : Disc L leaf br l') : l = l' := by
 obtain ⟨⟨j, rfl⟩, hf⟩ := h
 obtain ⟨⟨k, rfl⟩, hf'⟩ := h'
 rcases Nat.le_total j k with hjk | hjk
 ·obtain ⟨d, rfl⟩ := Nat.exists_eq_add_of_le hjk
  rw [roundsL_add, roundsL_fix hf]
 ·obtain ⟨d, rfl⟩ := Nat.exists_eq_add_of_le hjk
  rw [roundsL_add, roundsL_fix hf']
theorem Disc.rel (hR : OneOne R) (hl : ∀ x, x < L → R (leaf x) (leaf' x)) (hb : ∀ x a b c d, x < L → R a c → R b d → R (br x a b) (br' x c d)) {l : List S} {m : List T} (h : Disc L leaf br l) (h' : Disc L leaf' br' m) : F2 R l m := by
 obtain ⟨⟨j, rfl⟩, hf⟩ := h
 obtain ⟨⟨k, rfl⟩, hf'⟩ := h'
 have h1 := roundsL_rel hR hb (j + k) (leafL_rel hR hl)
 rw [roundsL_add, roundsL_fix hf, Nat.add_comm, roundsL_add, roundsL_fix hf'] at h1
 exact h1
end
section
variable {S : Type} [DecidableEq S] {L : Nat} {leaf : Nat → S} {br : Nat → S → S → S}
theorem fold_inv {A C : Type} {I : A → Prop} {f : A → C → A} : ∀ (l : List C), (∀ x c, c ∈ l → I x → I (f x c)) → ∀ {x : A}, I x → I (l.foldl f x)
 | [], _, _, hq => hq
 | c :: l, hs, x, hq => fold_inv l (fun x d hd => hs x d (List.mem_cons_of_mem _ hd)) (hs x c List.mem_cons_self hq)
theorem mid_stepB {l0 l : List S} {x : Nat} {a : S} (hx : x < L) (ha : a ∈ l0) (h : Mid L br l0 l) : Mid L br l0 (stepB br x l0 a l) := fold_inv (I := Mid L br l0) _ (fun _ _ hb h => h.meet hx ha hb) h
theorem mid_stepA {l0 l : List S} {x : Nat} (hx : x < L) (h : Mid L br l0 l) : Mid L br l0 (stepA br l0 l x) := fold_inv (I := Mid L br l0) _ (fun _ _ ha h => mid_stepB hx ha h) h
theorem mid_roundL {l0 : List S} (hn : l0.Nodup) : Mid L br l0 (roundL L br l0) := fold_inv (I := Mid L br l0) _ (fun _ _ hx h => mid_stepA (List.mem_range.1 hx) h) (Mid.refl hn)
theorem fold_mem {A C : Type} {f : List A → C → List A} (hf : ∀ l c, l <+: f l c) : ∀ (l : List C) (m : List A), m <+: l.foldl f m
 | [], _ => List.prefix_refl _
 | c :: l, m => (hf m c).trans (fold_mem hf l _)
theorem pre_stepB (x : Nat) (l0 : List S) (a : S) (l : List S) : l <+: stepB br x l0 a l := fold_mem (fun _ _ => prefix_meetL _ _) _ _
theorem pre_stepA (l0 : List S) (l : List S) (x : Nat) : l <+: stepA br l0 l x := fold_mem (fun _ _ => pre_stepB _ _ _ _) _ _
theorem fold_has {A C : Type} {f : List A → C → List A} (hf : ∀ l c, l <+: f l c) {s : A} : ∀ (l : List C) (c : C), c ∈ l → (∀ m, s ∈ f m c) → ∀ m, s ∈ l.foldl f m
 | d :: l, c, hc, hs, m => by
  rcases List.mem_cons.1 hc with rfl | hc
  ·exact (fold_mem hf l _).subset (hs m)
  ·exact fold_has hf l c hc hs _
theorem roundL_has {l0 : List S} {x : Nat} {a b : S} (hx : x < L) (ha : a ∈ l0) (hb : b ∈ l0) : br x a b ∈ roundL L br l0 :=
 fold_has (f := stepA br l0) (fun l x => pre_stepA l0 l x) _ x (List.mem_range.2 hx) (fun m => fold_has (f := fun l a => stepB br x l0 a l) (fun l a => pre_stepB x l0 a l) _ a ha
  (fun m => fold_has (f := fun l b => meetL l (br x a b)) (fun _ _ => prefix_meetL _ _) _ b hb (fun _ => mem_meetL.2 (.inr rfl)) m) m) _
theorem leafL_has {x : Nat} (hx : x < L) : leaf x ∈ leafL L leaf := fold_has (f := fun l x => meetL l (leaf x)) (fun _ _ => prefix_meetL _ _) _ x (List.mem_range.2 hx) (fun _ => mem_meetL.2 (.inr rfl)) _
theorem leafL_ok : (leafL L leaf).Nodup ∧ ∀ s ∈ leafL L leaf, Reach L leaf br s :=
 fold_inv (I := fun l => List.Nodup l ∧ ∀ s ∈ l, Reach L leaf br s) _ (fun l x hx h => ⟨nodup_meetL h.1 _, fun s hs => (mem_meetL.1 hs).elim (h.2 s) fun e => e ▸ .leaf x (List.mem_range.1 hx)⟩) ⟨List.nodup_nil, by simp⟩
theorem roundsL_ok (k : Nat) : ∀ l : List S, l.Nodup → (∀ s ∈ l, Reach L leaf br s) → (roundsL L br k l).Nodup ∧ (∀ s ∈ roundsL L br k l, Reach L leaf br s) ∧ l <+: roundsL L br k l := by
 induction k with
 | zero => exact fun l h h' => ⟨h, h', List.prefix_refl _⟩
 | succ k ih =>
  intro l h h'
  have hm := mid_roundL (L := L) (br := br) h
  obtain ⟨h1, h2, h3⟩ := ih _ hm.nodup (hm.reach h')
  exact ⟨h1, h2, hm.pre.trans h3⟩
theorem Disc.nodup {l : List S} (h : Disc L leaf br l) : l.Nodup := by
 obtain ⟨⟨k, rfl⟩, _⟩ := h
 exact (roundsL_ok (leaf := leaf) k _ (leafL_ok (br := br)).1 leafL_ok.2).1
theorem Disc.mem {l : List S} (h : Disc L leaf br l) (s : S) : s ∈ l ↔ Reach L leaf br s := by
 have hfix := h.2
 obtain ⟨⟨k, hk⟩, _⟩ := h
 constructor
 ·intro hs
  subst hk
  exact (roundsL_ok (leaf := leaf) k _ (leafL_ok (br := br)).1 leafL_ok.2).2.1 s hs
 ·intro hs
  induction hs with
  | leaf x hx =>
   subst hk
   exact (roundsL_ok (leaf := leaf) k _ (leafL_ok (br := br)).1 leafL_ok.2).2.2.subset (leafL_has hx)
  | br x a b hx _ _ iha ihb =>
   have := roundL_has (br := br) hx iha ihb
   rwa [hfix] at this
end
structure Canon (L n : Nat) (leaf : Nat → Nat) (br : Nat → Nat → Nat → Nat) (acc : Nat → Bool) (Λ : Tr → Bool) : Prop where
 isM : IsM L n leaf br
 lang : ∀ t : Tr, t.ok L → acc (runT leaf br t) = Λ t
 sep : ∀ t u : Tr, t.ok L → u.ok L → (∀ r, EqT L Λ r t u) → runT leaf br t = runT leaf br u
 ord : Disc L leaf br (List.range n)
theorem Canon.same {L n : Nat} {leaf : Nat → Nat} {br : Nat → Nat → Nat → Nat} {acc : Nat → Bool} {Λ : Tr → Bool} (h : Canon L n leaf br acc Λ) {t u : Tr} (ht : t.ok L) (hu : u.ok L) (he : runT leaf br t = runT leaf br u) (r : Nat) : EqT L Λ r t u := by
 refine EqT.congr h.lang r t u ht hu ((h.isM.eqS r t u ht hu).2 ?_)
 rw [he]
 exact (h.isM.eqS (acc := acc) r u u hu hu).1 (EqT.rfl' r u)
theorem Canon.unique {L n n' : Nat} {leaf leaf' : Nat → Nat} {br br' : Nat → Nat → Nat → Nat} {acc acc' : Nat → Bool} {Λ Λ' : Tr → Bool} (h : Canon L n leaf br acc Λ) (h' : Canon L n' leaf' br' acc' Λ') (hΛ : ∀ t : Tr, t.ok L → Λ t = Λ' t) :
  n = n' ∧ (∀ x, x < L → leaf x = leaf' x) ∧ (∀ x p q, x < L → p < n → q < n → br x p q = br' x p q) ∧ ∀ q, q < n → acc q = acc' q := by
 have hR : OneOne (fun p q : Nat => ∃ t : Tr, t.ok L ∧ runT leaf br t = p ∧ runT leaf' br' t = q) := by
  rintro _ _ _ _ ⟨t, ht, rfl, rfl⟩ ⟨u, hu, rfl, rfl⟩
  constructor
  ·exact fun e => h'.sep t u ht hu fun r => EqT.congr hΛ r t u ht hu (h.same ht hu e r)
  ·exact fun e => h.sep t u ht hu fun r => EqT.congr (fun t ht => (hΛ t ht).symm) r t u ht hu (h'.same ht hu e r)
 have hF := Disc.rel hR (fun x hx => ⟨.leaf x, hx, rfl, rfl⟩) (by
  rintro x _ _ _ _ hx ⟨t, ht, rfl, rfl⟩ ⟨u, hu, rfl, rfl⟩
  exact ⟨.node x t u, ⟨hx, ht, hu⟩, rfl, rfl⟩) h.ord h'.ord
 have hn : n = n' := by simpa using hF.length
 subst hn
 have hd : ∀ p, p < n → ∃ t : Tr, t.ok L ∧ runT leaf br t = p ∧ runT leaf' br' t = p := fun p hp => hF.get (i := p) (by simp [hp]) (by simp [hp])
 have hs : ∀ t : Tr, t.ok L → runT leaf br t = runT leaf' br' t := fun t ht => by
  obtain ⟨u, hu, h1, h2⟩ := hd _ (h.isM.run_lt t ht)
  have := (hR _ _ _ _ ⟨t, ht, rfl, rfl⟩ ⟨u, hu, rfl, rfl⟩).1 h1.symm
  rw [this, h2]
 refine ⟨rfl, fun x hx => hs (.leaf x) hx, fun x p q hx hp hq => ?_, fun q hq => ?_⟩
 ·obtain ⟨t, ht, h1, h1'⟩ := hd p hp
  obtain ⟨u, hu, h2, h2'⟩ := hd q hq
  have := hs (.node x t u) ⟨hx, ht, hu⟩
  simp only [runT, h1, h2, h1', h2'] at this
  exact this
 ·obtain ⟨t, ht, h1, h1'⟩ := hd q hq
  have := (h.lang t ht).trans ((hΛ t ht).trans (h'.lang t ht).symm)
  rwa [h1, h1'] at this
end Go.Proofs.YtbjdgepfhhafjaaDoor
namespace Go.Proofs.YtbjdgepfhhafjaaDoor
open Go.RowKit
def mleaf (lf : List Nat) (x : Nat) : Nat := lf.getD x 0
def mbr (t : List (List (List Nat))) (x i j : Nat) : Nat := ((t.getD i []).getD j []).getD x 0
def macc (ac : List Bool) (i : Nat) : Bool := ac.getD i false
structure MOK (L : Nat) (ac : List Bool) (lf : List Nat) (t : List (List (List Nat))) : Prop where
 lfl : lf.length = L
 tl : t.length = ac.length
 rl : ∀ (i : Nat) (r : List (List Nat)), t[i]? = some r → r.length = ac.length ∧ ∀ (j : Nat) (row : List Nat), r[j]? = some row → row.length = L
 isM : IsM L ac.length (mleaf lf) (mbr t)
theorem getD_some {D : Type} {l : List D} {i : Nat} {x d : D} (h : l[i]? = some x) : l.getD i d = x := by rw [List.getD_eq_getElem?_getD, h]; rfl
theorem get_lt {D : Type} {l : List D} {i : Nat} (h : i < l.length) : ∃ x, l[i]? = some x := ⟨_, List.getElem?_eq_getElem h⟩
theorem MOK.cell {L : Nat} {ac : List Bool} {lf : List Nat} {t : List (List (List Nat))} (h : MOK L ac lf t) {i j x : Nat} (hi : i < ac.length) (hj : j < ac.length) (hx : x < L) :
  ∃ r row, t[i]? = some r ∧ r.length = ac.length ∧ r[j]? = some row ∧ row.length = L ∧ row[x]? = some (mbr t x i j) := by
 obtain ⟨r, hr⟩ := get_lt (l := t) (i := i) (by rw [h.tl]; exact hi)
 obtain ⟨h1, h2⟩ := h.rl i r hr
 obtain ⟨row, hrow⟩ := get_lt (l := r) (i := j) (by rw [h1]; exact hj)
 have h3 := h2 j row hrow
 obtain ⟨e, he⟩ := get_lt (l := row) (i := x) (by rw [h3]; exact hx)
 refine ⟨r, row, hr, h1, hrow, h3, ?_⟩
 unfold mbr
 rw [getD_some hr, getD_some hrow, getD_some he, he]
theorem MachA.at {w : World} {base gM L : Nat} {vacc vleaf vbr : Value} {ac : List Bool} {lf : List Nat} {t : List (List (List Nat))} (hM : MachA w base gM L vacc vleaf vbr ac lf t) (hok : MOK L ac lf t) {i j x : Nat} (hi : i < ac.length) (hj : j < ac.length) (hx : x < L) :
  ∃ gv cv gi ci gj cj, vbr = .slice (some ⟨gv, 0, none⟩) ac.length cv ∧ w.cell? ⟨gv, i, none⟩ = some (.slice (some ⟨gi, 0, none⟩) ac.length ci) ∧ w.cell? ⟨gi, j, none⟩ = some (.slice (some ⟨gj, 0, none⟩) L cj) ∧ w.cell? ⟨gj, x, none⟩ = some (.int .i64 (mbr t x i j : Int)) := by
 obtain ⟨r, row, hr, hrl, hrow, hrowl, he⟩ := hok.cell hi hj hx
 obtain ⟨us, hu⟩ := hM.tab.open
 have hul := hu.len
 obtain ⟨ui, hui⟩ := get_lt (l := us) (i := i) (by rw [hul]; exact lt_of_get hr)
 obtain ⟨gv, cv, rfl, hc1⟩ := own_get hu.own hui
 obtain ⟨uis, h1, h2, h3⟩ := hu.row i ui r hui hr
 obtain ⟨uj, huj⟩ := get_lt (l := uis) (i := j) (by rw [h1]; exact lt_of_get hrow)
 obtain ⟨gi, ci, rfl, hc2⟩ := own_get h2 huj
 have hI := h3 j uj row huj hrow
 obtain ⟨gj, cj, rfl, hc3⟩ := own_get hI (map_get (f := encN) he)
 refine ⟨gv, cv, gi, ci, gj, cj, by rw [hok.tl], by rw [← hrl]; exact hc1, by rw [← hrowl]; exact hc2, hc3⟩
theorem built_get {L : Nat} {leaf : Nat → Nat} {br : Nat → Nat → Nat → Nat} {l lf : List Nat} {t : List (List (List Nat))} (hl : lf.length = L) (hlf : LeafOK leaf l lf) (ht : TabOK L br l (fun _ => l.length) t) (htl : t.length = l.length) :
  (∀ x, x < L → l[mleaf lf x]? = some (leaf x)) ∧ ∀ x i j s u, x < L → l[i]? = some s → l[j]? = some u → l[mbr t x i j]? = some (br x s u) := by
 refine ⟨fun x hx => ?_, fun x i j s u hx hi hj => ?_⟩
 ·obtain ⟨e, he⟩ := get_lt (l := lf) (i := x) (by omega)
  unfold mleaf
  rw [getD_some he]
  exact hlf x e he
 ·obtain ⟨r, hr⟩ := get_lt (l := t) (i := i) (by rw [htl]; exact lt_of_get hi)
  obtain ⟨h1, h2⟩ := ht i r hr
  obtain ⟨row, hrow⟩ := get_lt (l := r) (i := j) (by rw [h1]; exact lt_of_get hj)
  obtain ⟨h3, h4⟩ := h2 j row hrow
  obtain ⟨e, he⟩ := get_lt (l := row) (i := x) (by omega)
  obtain ⟨s', u', e1, e2, e3⟩ := h4 x e he
  rw [hi] at e1; rw [hj] at e2
  injection e1 with e1; injection e2 with e2
  subst e1 e2
  unfold mbr
  rw [getD_some hr, getD_some hrow, getD_some he]
  exact e3
theorem built_ok {L : Nat} {leaf : Nat → Nat} {br : Nat → Nat → Nat → Nat} {acc : Nat → Bool} {l lf : List Nat} {t : List (List (List Nat))} (hn : l.Nodup) (hR : ∀ s ∈ l, Reach L leaf br s) (hl : lf.length = L) (hlf : LeafOK leaf l lf)
  (ht : TabOK L br l (fun _ => l.length) t) (htl : t.length = l.length) :
  MOK L (l.map acc) lf t ∧ (∀ tr : Tr, tr.ok L → l[runT (mleaf lf) (mbr t) tr]? = some (runT leaf br tr)) ∧ ∀ tr : Tr, tr.ok L → macc (l.map acc) (runT (mleaf lf) (mbr t) tr) = acc (runT leaf br tr) := by
 obtain ⟨hx, hb⟩ := built_get hl hlf ht htl
 have hrun : ∀ tr : Tr, tr.ok L → l[runT (mleaf lf) (mbr t) tr]? = some (runT leaf br tr) := by
  intro tr
  induction tr with
  | leaf x => exact fun h => hx x h
  | node x s u ihs ihu => exact fun h => hb x _ _ _ _ h.1 (ihs h.2.1) (ihu h.2.2)
 refine ⟨⟨hl, by simp [htl], fun i r hr => ?_, ⟨fun x h => ?_, fun x p q h hp hq => ?_, fun q hq => ?_⟩⟩, hrun, fun tr h => ?_⟩
 ·obtain ⟨h1, h2⟩ := ht i r hr
  exact ⟨by simpa using h1, fun j row hrow => (h2 j row hrow).1⟩
 ·have := lt_of_get (hx x h)
  simpa using this
 ·obtain ⟨s, hs⟩ := get_lt (l := l) (i := p) (by simpa using hp)
  obtain ⟨u, hu⟩ := get_lt (l := l) (i := q) (by simpa using hq)
  have := lt_of_get (hb x p q s u h hs hu)
  simpa using this
 ·obtain ⟨s, hs⟩ := get_lt (l := l) (i := q) (by simpa using hq)
  obtain ⟨tr, h1, h2⟩ := reach_run.1 (hR s (List.mem_of_getElem? hs))
  have h3 := hrun tr h1
  rw [h2] at h3
  have : runT (mleaf lf) (mbr t) tr = q := by
   exact (List.getElem?_inj (lt_of_get h3) hn).1 (h3.trans hs.symm)
  exact reach_run.2 ⟨tr, h1, this⟩
 ·unfold macc
  exact getD_some (map_get (hrun tr h))
end Go.Proofs.YtbjdgepfhhafjaaDoor
namespace Go.Proofs.YtbjdgepfhhafjaaDoor
open Go.RowKit
section
variable {P : Program} {ops : Array Oper} {rest : List Oper} {o : Oper} {a : Act} {Q : Exit → Act → World → Prop}
theorem wpList_app_news {w : World} {t e size : Nat} (R : RowTy P t e size) (hgd : o.guard = none) (s x : Operand)
  (ho : o.op = .call { callee := .builtin .append, args := #[s, x], argTypes := #[t, t] })
  (base : Nat) (v : Value) (n : Nat) (xs : List Value) (hs : a.eval s = v) (hown : w.ownsRow base e size v n xs) (cs : List Value) (m c : Nat)
  (hx : a.eval x = .slice (some ⟨w.heap.size, 0, none⟩) m c) (hl : cs.length = m * size) (h1 : ∀ u ∈ cs, u.oneCell' = true) (hm : 0 < m)
  (hn : n + m ≤ 1000000) (hbase : base ≤ w.heap.size)
  (h : ∀ g cap w', w'.ownsRow base e size (.slice (some ⟨g, 0, none⟩) (n + m) cap) (n + m) (xs ++ cs) → Kept w w' (fun k => v.ownBlock = some k) → Moved w v (.slice (some ⟨g, 0, none⟩) (n + m) cap) → g < w'.heap.size →
   wpList P ops Q rest (a.put o.dst (.slice (some ⟨g, 0, none⟩) (n + m) cap)) w') :
  wpList P ops Q (o :: rest) a (w.alloc (.cells cs.toArray e)) := by
 refine wpList_app R hgd s x ho base v n xs hs (hown.alloc _) ⟨w.heap.size, 0, none⟩ m c cs hx hl ?_ h1 hm hn (by simp; omega) ?_
 ·intro j u hj
  have hadd : (⟨w.heap.size, 0, none⟩ : Addr).add j = ⟨w.heap.size, j, none⟩ := by unfold Addr.add; split <;> simp_all
  rw [hadd, cell_of_row _ w.heap.size j cs.toArray e (0, 0) (heap_alloc_new w _)]
  simpa using hj
 ·intro g cap w' hown' hk hmv hg
  refine h g cap w' hown' (((Kept.refl w (fun k => v.ownBlock = some k)).alloc (.cells cs.toArray e)).trans hk fun b _ hb => hb) ?_ hg
  rcases hmv with hmv | ⟨g', hmv, hg'⟩
  ·exact .inl hmv
  ·refine .inr ⟨g', hmv, ?_⟩
   simp at hg'
   omega
end
def encY (b : UInt8) : Value := .int .u8 (b.toNat : Int)
def b8 (n : Nat) : Nat := (UInt8.ofNat n).toNat
def n8 (n : Nat) : Nat := n / 256
def bts (n : Nat) : List UInt8 := [UInt8.ofNat n, UInt8.ofNat (n8 n)]
theorem conv_b8 (w : World) (n : Nat) : (convert 3 5 (.int .i64 (n : Int))).run Tryd.prog w = .ok (.int .u8 (b8 n : Int)) w := by
 have h := run_convert_int (P := Tryd.prog) w 3 5 .i64 (n : Int) (by kernel_rfl) (by kernel_rfl)
 have hk : Tryd.prog.intKind 5 = .u8 := by kernel_rfl
 rw [h, hk, IntKind.wrap_u8']
 unfold b8
 simp
theorem bop_shr8 (t : TypeId) (n : Nat) : binOp .shr t (.int .i64 (n : Int)) (.int .u64 8) = pure (.int .i64 (n8 n : Int)) := by
 rw [binOp_shr, shift_shr_any _ _ _ _ (by omega)]
 unfold n8
 rfl
attribute [go_sem high] conv_b8 bop_shr8
theorem bts_inj {m n : Nat} (hm : m < 65536) (hn : n < 65536) (h : bts m = bts n) : m = n := by
 unfold bts n8 at h
 simp only [List.cons.injEq, and_true] at h
 obtain ⟨h1, h2⟩ := h
 have e1 := congrArg UInt8.toNat h1
 have e2 := congrArg UInt8.toNat h2
 simp at e1 e2
 omega
theorem bts_length (n : Nat) : (bts n).length = 2 := rfl
def sgX (cl : List Nat) (t : List (List (List Nat))) (i j x : Nat) : List UInt8 := bts (cl.getD (mbr t x i j) 0) ++ bts (cl.getD (mbr t x j i) 0)
def sgJ (L : Nat) (cl : List Nat) (t : List (List (List Nat))) (i j : Nat) : List UInt8 := (List.range L).flatMap (sgX cl t i j)
def sgn (L n : Nat) (cl : List Nat) (t : List (List (List Nat))) (i : Nat) : List UInt8 := bts (cl.getD i 0) ++ (List.range n).flatMap (sgJ L cl t i)
theorem sgX_length (cl : List Nat) (t : List (List (List Nat))) (i j x : Nat) : (sgX cl t i j x).length = 4 := rfl
theorem flatMap_len {A B : Type} (f : A → List B) (k : Nat) (hf : ∀ a, (f a).length = k) (l : List A) : (l.flatMap f).length = l.length * k := by
 induction l with
 | nil => simp
 | cons a l ih => rw [List.flatMap_cons, List.length_append, hf, ih, List.length_cons, Nat.succ_mul, Nat.add_comm]
theorem sgJ_length (L : Nat) (cl : List Nat) (t : List (List (List Nat))) (i j : Nat) : (sgJ L cl t i j).length = L * 4 := by
 unfold sgJ
 rw [flatMap_len _ 4 (fun x => sgX_length cl t i j x), List.length_range]
theorem flat_inj {A B : Type} {f g : A → List B} {k : Nat} (hf : ∀ a, (f a).length = k) (hg : ∀ a, (g a).length = k) : ∀ {l : List A}, l.flatMap f = l.flatMap g → ∀ a ∈ l, f a = g a
 | b :: l, h, a, ha => by
  rw [List.flatMap_cons, List.flatMap_cons] at h
  have h2 := List.append_inj h ((hf b).trans (hg b).symm)
  rcases List.mem_cons.1 ha with rfl | ha
  ·exact h2.1
  ·exact flat_inj hf hg h2.2 a ha
theorem sgn_iff {L n : Nat} {cl : List Nat} {t : List (List (List Nat))} {i i' : Nat} (hc : ∀ k, cl.getD k 0 < 65536) :
  sgn L n cl t i = sgn L n cl t i' ↔ cl.getD i 0 = cl.getD i' 0 ∧ ∀ x, x < L → ∀ k, k < n → cl.getD (mbr t x i k) 0 = cl.getD (mbr t x i' k) 0 ∧ cl.getD (mbr t x k i) 0 = cl.getD (mbr t x k i') 0 := by
 constructor
 ·intro h
  have h1 := List.append_inj h rfl
  refine ⟨bts_inj (hc _) (hc _) h1.1, fun x hx k hk => ?_⟩
  have h2 := flat_inj (sgJ_length L cl t i) (sgJ_length L cl t i') h1.2 k (List.mem_range.2 hk)
  have h3 := flat_inj (sgX_length cl t i k) (sgX_length cl t i' k) h2 x (List.mem_range.2 hx)
  have h4 := List.append_inj h3 rfl
  exact ⟨bts_inj (hc _) (hc _) h4.1, bts_inj (hc _) (hc _) h4.2⟩
 ·rintro ⟨h1, h2⟩
  unfold sgn
  rw [h1]
  congr 1
  have : ∀ k, k < n → sgJ L cl t i k = sgJ L cl t i' k := fun k hk => by
   unfold sgJ
   have : ∀ x, x < L → sgX cl t i k x = sgX cl t i' k x := fun x hx => by
    unfold sgX
    rw [(h2 x hx k hk).1, (h2 x hx k hk).2]
   exact flat_congr fun x hx => this x (List.mem_range.1 hx)
  exact flat_congr fun k hk => this k (List.mem_range.1 hk)
where flat_congr {A B : Type} {f g : A → List B} : ∀ {l : List A}, (∀ a ∈ l, f a = g a) → l.flatMap f = l.flatMap g
 | [], _ => rfl
 | a :: l, h => by rw [List.flatMap_cons, List.flatMap_cons, h a List.mem_cons_self, flat_congr fun b hb => h b (List.mem_cons_of_mem _ hb)]
theorem info5 : (Tryd.prog.info? 5).map (fun i => (i.zero, i.size, i.bytes)) = some (some (.int .u8 0), 1, 1) := by kernel_rfl
theorem row161 : RowTy Tryd.prog 134 5 1 := rowTy_of Tryd.underlying134 info5 rfl (by omega) (by omega)
theorem blk_ty {w : World} {k t t' : Nat} {cs cs' : Array Value} (h : Blk w k t cs) (h' : Blk w k t' cs') : t = t' := by
 unfold Blk at h h'
 rw [h] at h'
 injection h' with h'
 injection h' with _ h2
theorem MachA.row {w w' : World} {base gM L : Nat} {vacc vleaf vbr : Value} {ac : List Bool} {lf : List Nat} {t : List (List (List Nat))} (hM : MachA w base gM L vacc vleaf vbr ac lf t) {v : Value} {b e size n : Nat} {xs : List Value} (ho : w.ownsRow b e size v n xs) (he : e ≠ 79 ∧ e ≠ 4 ∧ e ≠ 3 ∧ e ≠ 24 ∧ e ≠ 81)
  (hk : Kept w w' (fun k => v.ownBlock = some k)) : MachA w' base gM L vacc vleaf vbr ac lf t :=
 hM.keep hk fun k t cs hx hb => by
  obtain ⟨cs', hb'⟩ := own_blk ho hx
  have := blk_ty hb hb'
  subst this
  exact he
theorem Kept.moved {w w' w'' : World} {v v' : Value} (hK : Kept w w' (fun k => v.ownBlock = some k)) (hm : Moved w v v') (hk : Kept w' w'' (fun k => v'.ownBlock = some k)) : Kept w w'' (fun k => v.ownBlock = some k) :=
 hK.trans hk fun b hb hx => by
  rcases hm with h | ⟨g, h, hg⟩
  ·rw [← h]; exact hx
  ·rw [h] at hx
   injection hx with hx
   omega
theorem rangeSnoc {A : Type} (f : Nat → List A) (k : Nat) : (List.range (k + 1)).flatMap f = (List.range k).flatMap f ++ f k := by
 rw [List.range_succ, List.flatMap_append]; simp
end Go.Proofs.YtbjdgepfhhafjaaDoor
namespace Go.Proofs.YtbjdgepfhhafjaaDoor
open Go.RowKit
theorem ref_inner {w : World} {base base2 B gM L gc cc i j : Nat} {vacc vleaf vbr vb : Value} {ac : List Bool} {lf cl : List Nat} {t : List (List (List Nat))} (hM : MachA w base gM L vacc vleaf vbr ac lf t) (hok : MOK L ac lf t)
  (hcl : w.ownsRow base2 3 1 (.slice (some ⟨gc, 0, none⟩) ac.length cc) ac.length (cl.map encN)) (hL : L ≤ 8) (_ : ac.length ≤ 20000) (hi : i < ac.length) (hj : j < ac.length)
  {bs : List UInt8} (hb : w.ownsRow B 5 1 vb bs.length (bs.map encY)) (hbl : bs.length ≤ 700000) (hB : B ≤ w.heap.size)
  {u2 u3 u4 u5 u6 u7 u11 u12 u13 u14 u15 u16 u17 u18 u19 u20 u21 u22 u23 u24 u25 u26 u27 u28 u29 u30 u31 u32 u33 u34 u35 u36 u37 u38 u39 u40 u41 u42 u43 u44 u47 u48 u49 u50 u51 u52 u53 u54 u55 u56 u57 u58 u59 u60 u61 u62 u63 u64 u65 u66 u67 u68 u69 u70 u71 u72 u73 u74 u75 u76 u77 u78 u79 u80 u81 u82 u83 u84 u85 u86 u87 u88 u89 u90 u91 u92 u93 u94 u95 u96 u97 u98 u99 u100 u101 u102 u103 u104 u105 u106 u107 u108 u109 u110 u111 u112 u113 u114 u115 u116 u117 u118 : Value}
  {Q : Exit → Act → World → Prop} (hN : Reg.NoQ Q)
  (hQ : ∀ (x11 x12 x13 x46 x47 x48 x49 x50 x51 x52 x53 x54 x55 x56 x57 x58 x59 x60 x61 x62 x63 x64 x65 x66 x67 x68 x69 x70 x71 x72 x73 x74 x75 x76 x77 x78 x79 x80 x81 x82 x83 x84 x85 x86 x87 x88 x89 x90 x91 x92 x93 x94 : Value) (w' : World) (vb' : Value), Kept w w' (fun k => vb.ownBlock = some k) → Moved w vb vb' → w'.ownsRow B 5 1 vb' (bs ++ sgJ L cl t i j).length ((bs ++ sgJ L cl t i j).map encY) →
   Q (.exit 4) ⟨List.toArray ((.pointer (some ⟨gM, 0, none⟩)) :: (.slice (some ⟨gc, 0, none⟩) ac.length cc) :: u2 :: u3 :: u4 :: u5 :: u6 :: u7 :: (.int .i64 i) :: vb' :: (.int .i64 j) :: x11 :: x12 :: x13 :: u14 :: u15 :: u16 :: u17 :: u18 :: u19 :: u20 :: u21 :: u22 :: u23 :: u24 :: u25 ::
   u26 :: u27 :: u28 :: u29 :: u30 :: u31 :: u32 :: u33 :: u34 :: u35 :: u36 :: u37 :: u38 :: u39 :: u40 :: u41 :: u42 :: u43 :: u44 :: (.int .i64 L) :: x46 :: x47 :: x48 :: x49 :: x50 :: x51 :: x52 :: x53 :: x54 :: x55 :: x56 :: x57 :: x58 :: x59 :: x60 :: x61 ::
   x62 :: x63 :: x64 :: x65 :: x66 :: x67 :: x68 :: x69 :: x70 :: x71 :: x72 :: x73 :: x74 :: x75 :: x76 :: x77 :: x78 :: x79 :: x80 :: x81 :: x82 :: x83 :: x84 :: x85 :: x86 :: x87 :: x88 :: x89 :: x90 :: x91 :: x92 :: x93 :: x94 :: u95 :: u96 :: u97 :: u98 ::
   u99 :: u100 :: u101 :: u102 :: u103 :: u104 :: u105 :: u106 :: u107 :: u108 :: u109 :: u110 :: u111 :: u112 :: u113 :: u114 :: u115 :: u116 :: u117 :: u118 :: []), []⟩ w') :
  (Code.loop (loopBody Tryd.f74 2)).wp Tryd.prog Q ⟨List.toArray ((.pointer (some ⟨gM, 0, none⟩)) :: (.slice (some ⟨gc, 0, none⟩) ac.length cc) :: u2 :: u3 :: u4 :: u5 :: u6 :: u7 :: (.int .i64 i) :: vb :: (.int .i64 j) :: u11 :: u12 :: u13 :: u14 :: u15 :: u16 :: u17 :: u18 :: u19 :: u20 :: u21 :: u22 :: u23 :: u24 :: u25 ::
   u26 :: u27 :: u28 :: u29 :: u30 :: u31 :: u32 :: u33 :: u34 :: u35 :: u36 :: u37 :: u38 :: u39 :: u40 :: u41 :: u42 :: u43 :: u44 :: (.int .i64 L) :: (.int .i64 0) :: u47 :: u48 :: u49 :: u50 :: u51 :: u52 :: u53 :: u54 :: u55 :: u56 :: u57 :: u58 :: u59 ::
   u60 :: u61 :: u62 :: u63 :: u64 :: u65 :: u66 :: u67 :: u68 :: u69 :: u70 :: u71 :: u72 :: u73 :: u74 :: u75 :: u76 :: u77 :: u78 :: u79 :: u80 :: u81 :: u82 :: u83 :: u84 :: u85 :: u86 :: u87 :: u88 :: u89 :: u90 :: u91 :: u92 :: u93 :: u94 :: u95 :: u96 ::
   u97 :: u98 :: u99 :: u100 :: u101 :: u102 :: u103 :: u104 :: u105 :: u106 :: u107 :: u108 :: u109 :: u110 :: u111 :: u112 :: u113 :: u114 :: u115 :: u116 :: u117 :: u118 :: []), []⟩ w := by
 conv => arg 2; arg 1; whnf
 go_loopw [9, 46] (fun vv xx wr => ∃ (x : Nat), xx = .int .i64 (x : Int) ∧ x ≤ L ∧ Kept w wr (fun k => vb.ownBlock = some k) ∧ Moved w vb vv ∧ wr.ownsRow B 5 1 vv (bs ++ (List.range x).flatMap (sgX cl t i j)).length ((bs ++ (List.range x).flatMap (sgX cl t i j)).map encY)) (fun _ xx _ => L - (intOf xx).toNat)
 case atStart => exact ⟨0, rfl, Nat.zero_le _, Kept.refl _ _, Moved.refl _ _, by simpa using hb⟩
 case round =>
  obtain ⟨x, rfl, hx, hK, hmv, hbw⟩ := hrel
  obtain ⟨A, c, rfl⟩ := slice_of_own hbw
  have hok2 := hide hok
  clear hok
  by_cases hlt : x < L
  ·have hM' := hM.row hb (by decide) hK
   obtain ⟨gv, cv, gi, ci, gj, cj, rfl, h1, h2, h3⟩ := hM'.at hok2.out hi hj hlt
   obtain ⟨gv', cv', gi', ci', gj', cj', hv, h4, h5, h6⟩ := hM'.at hok2.out hj hi hlt
   injection hv with hv1 _ hv3
   injection hv1 with hv1
   injection hv1 with hv1
   subst hv1 hv3
   have hcm := hM'.blk.cell
   have hcl' := own_ty hK hcl (not_blk hb (by decide))
   have hp : mbr t x i j < ac.length := hok2.out.isM.br_lt x i j hlt hi hj
   have hq : mbr t x j i < ac.length := hok2.out.isM.br_lt x j i hlt hj hi
   have hll := hcl.1
   have hlen : cl.length = ac.length := by simpa using hll
   obtain ⟨p, hpg⟩ := get_lt (l := cl) (i := mbr t x i j) (by omega)
   obtain ⟨q, hqg⟩ := get_lt (l := cl) (i := mbr t x j i) (by omega)
   have hcp := own_cell hcl' (map_get (f := encN) hpg)
   have hcq := own_cell hcl' (map_get (f := encN) hqg)
   simp only [encN] at hcp hcq
   have hsx : Hid (sgX cl t i j x = bts p ++ bts q) := by
    show _ = _
    unfold sgX
    rw [getD_some hpg, getD_some hqg]
   have hlb : (bs ++ (List.range x).flatMap (sgX cl t i j)).length ≤ 700032 := by
    rw [List.length_append, flatMap_len _ 4 (fun x => sgX_length cl t i j x), List.length_range]; omega
   have hKs := hK.size
   clear hll hlen hpg hqg
   generalize hbs' : (bs ++ (List.range x).flatMap (sgX cl t i j)) = bs' at *
   have hbse := hide hbs'
   clear hbs'
   go_wp2_with fail
   refine Reg.region_plain [0, 0, 2, 6, 14, 0, 62, 126, 0, 510, 1022, 0, 4094, 8190, 16383, 32767, 0, 0, 131072, 393216, 917504, 0, 4063232, 8257536, 0, 33423360, 66977792, 0, 268304384, 536739840, 1073676288, 2147418112, 65535, 8589934591] (by kernel_rfl) (by repeat (first | exact hN | refine Reg.NoQ.then ?_ | refine Reg.NoQ.inBlock ?_)) ?_
   go_wp2_with (at_builtin; refine wpList_app_news (w := wr.drew) row161 rfl _ _ rfl B (.slice A bs'.length c) bs'.length _ rfl hbw [.int .u8 (b8 p : Int), .int .u8 (b8 (n8 p) : Int), .int .u8 (b8 q : Int), .int .u8 (b8 (n8 q) : Int)] 4 4 rfl rfl (by simp [Value.oneCell']) (by omega) (by omega) (Nat.le_trans hB hKs) ?_; intro g cap' w3 hown hk3 hmv3 hg3)
   have hk4 : Kept wr w3 (fun k => (Value.slice A bs'.length c).ownBlock = some k) := ⟨hk3.os, hk3.tape, hk3.output, hk3.size, hk3.block⟩
   refine ⟨⟨x + 1, by simp, by omega, hK.moved hmv hk4, hmv.trans hKs hmv3, ?_⟩, by simp [intOf]; omega⟩
   rw [rangeSnoc, ← List.append_assoc, hbse.out, hsx.out]
   simpa [bts, encY, b8] using hown
  ·have e : x = L := by omega
   have he := hide e
   clear e
   go_wp2_with fail
   refine hQ _ _ _ _ _ _ _ _ _ _ _ _ _ _ _ _ _ _ _ _ _ _ _ _ _ _ _ _ _ _ _ _ _ _ _ _ _ _ _ _ _ _ _ _ _ _ _ _ _ _ _ _ wr _ hK hmv ?_
   have e2 := he.out
   subst e2
   exact hbw
end Go.Proofs.YtbjdgepfhhafjaaDoor
namespace Go.Proofs.YtbjdgepfhhafjaaDoor
open Go.RowKit
theorem ref_middle {w : World} {base base2 B gM L gc cc i : Nat} {vacc vleaf vbr vb : Value} {ac : List Bool} {lf cl : List Nat} {t : List (List (List Nat))} (hM : MachA w base gM L vacc vleaf vbr ac lf t) (hok : MOK L ac lf t)
  (hcl : w.ownsRow base2 3 1 (.slice (some ⟨gc, 0, none⟩) ac.length cc) ac.length (cl.map encN)) (hL : L ≤ 8) (hn : ac.length ≤ 20000) (hi : i < ac.length)
  {bs : List UInt8} (hb : w.ownsRow B 5 1 vb bs.length (bs.map encY)) (hbl : bs.length ≤ 2) (hB : B ≤ w.heap.size)
  {u2 u3 u4 u5 u6 u7 u10 u11 u12 u13 u14 u15 u16 u17 u18 u19 u20 u21 u22 u23 u24 u25 u26 u27 u28 u29 u30 u31 u32 u33 u34 u35 u36 u37 u40 u41 u42 u43 u44 u45 u46 u47 u48 u49 u50 u51 u52 u53 u54 u55 u56 u57 u58 u59 u60 u61 u62 u63 u64 u65 u66 u67 u68 u69 u70 u71 u72 u73 u74 u75 u76 u77 u78 u79 u80 u81 u82 u83 u84 u85 u86 u87 u88 u89 u90 u91 u92 u93 u94 u95 u96 u97 u98 u99 u100 u101 u102 u103 u104 u105 u106 u107 u108 u109 u110 u111 u112 u113 u114 u115 u116 u117 u118 : Value}
  {Q : Exit → Act → World → Prop} (hN : Reg.NoQ Q)
  (hQ : ∀ (x10 x11 x12 x13 x39 x40 x41 x42 x43 x44 x45 x46 x47 x48 x49 x50 x51 x52 x53 x54 x55 x56 x57 x58 x59 x60 x61 x62 x63 x64 x65 x66 x67 x68 x69 x70 x71 x72 x73 x74 x75 x76 x77 x78 x79 x80 x81 x82 x83 x84 x85 x86 x87 x88 x89 x90 x91 x92 x93 x94 x95 : Value) (w' : World) (vb' : Value), Kept w w' (fun k => vb.ownBlock = some k) → Moved w vb vb' → w'.ownsRow B 5 1 vb' (bs ++ (List.range ac.length).flatMap (sgJ L cl t i)).length ((bs ++ (List.range ac.length).flatMap (sgJ L cl t i)).map encY) →
   Q (.exit 2) ⟨List.toArray ((.pointer (some ⟨gM, 0, none⟩)) :: (.slice (some ⟨gc, 0, none⟩) ac.length cc) :: u2 :: u3 :: u4 :: u5 :: u6 :: u7 :: (.int .i64 i) :: vb' :: x10 :: x11 :: x12 :: x13 :: u14 :: u15 :: u16 :: u17 :: u18 :: u19 :: u20 :: u21 :: u22 :: u23 :: u24 :: u25 :: u26 ::
   u27 :: u28 :: u29 :: u30 :: u31 :: u32 :: u33 :: u34 :: u35 :: u36 :: u37 :: (.int .i64 ac.length) :: x39 :: x40 :: x41 :: x42 :: x43 :: x44 :: x45 :: x46 :: x47 :: x48 :: x49 :: x50 :: x51 :: x52 :: x53 :: x54 :: x55 :: x56 :: x57 :: x58 :: x59 :: x60 :: x61 ::
   x62 :: x63 :: x64 :: x65 :: x66 :: x67 :: x68 :: x69 :: x70 :: x71 :: x72 :: x73 :: x74 :: x75 :: x76 :: x77 :: x78 :: x79 :: x80 :: x81 :: x82 :: x83 :: x84 :: x85 :: x86 :: x87 :: x88 :: x89 :: x90 :: x91 :: x92 :: x93 :: x94 :: x95 :: u96 :: u97 :: u98 ::
   u99 :: u100 :: u101 :: u102 :: u103 :: u104 :: u105 :: u106 :: u107 :: u108 :: u109 :: u110 :: u111 :: u112 :: u113 :: u114 :: u115 :: u116 :: u117 :: u118 :: []), []⟩ w') :
  (Code.loop (loopBody Tryd.f74 1)).wp Tryd.prog Q ⟨List.toArray ((.pointer (some ⟨gM, 0, none⟩)) :: (.slice (some ⟨gc, 0, none⟩) ac.length cc) :: u2 :: u3 :: u4 :: u5 :: u6 :: u7 :: (.int .i64 i) :: vb :: u10 :: u11 :: u12 :: u13 :: u14 :: u15 :: u16 :: u17 :: u18 :: u19 :: u20 :: u21 :: u22 :: u23 :: u24 :: u25 :: u26 ::
   u27 :: u28 :: u29 :: u30 :: u31 :: u32 :: u33 :: u34 :: u35 :: u36 :: u37 :: (.int .i64 ac.length) :: (.int .i64 0) :: u40 :: u41 :: u42 :: u43 :: u44 :: u45 :: u46 :: u47 :: u48 :: u49 :: u50 :: u51 :: u52 :: u53 :: u54 :: u55 :: u56 :: u57 :: u58 :: u59 ::
   u60 :: u61 :: u62 :: u63 :: u64 :: u65 :: u66 :: u67 :: u68 :: u69 :: u70 :: u71 :: u72 :: u73 :: u74 :: u75 :: u76 :: u77 :: u78 :: u79 :: u80 :: u81 :: u82 :: u83 :: u84 :: u85 :: u86 :: u87 :: u88 :: u89 :: u90 :: u91 :: u92 :: u93 :: u94 :: u95 :: u96 ::
   u97 :: u98 :: u99 :: u100 :: u101 :: u102 :: u103 :: u104 :: u105 :: u106 :: u107 :: u108 :: u109 :: u110 :: u111 :: u112 :: u113 :: u114 :: u115 :: u116 :: u117 :: u118 :: []), []⟩ w := by
 conv => arg 2; arg 1; whnf
 go_loopw [9, 39] (fun vv jj wr => ∃ (j : Nat), jj = .int .i64 (j : Int) ∧ j ≤ ac.length ∧ Kept w wr (fun k => vb.ownBlock = some k) ∧ Moved w vb vv ∧ wr.ownsRow B 5 1 vv (bs ++ (List.range j).flatMap (sgJ L cl t i)).length ((bs ++ (List.range j).flatMap (sgJ L cl t i)).map encY)) (fun _ jj _ => ac.length - (intOf jj).toNat)
 case atStart => exact ⟨0, rfl, Nat.zero_le _, Kept.refl _ _, Moved.refl _ _, by simpa using hb⟩
 case round =>
  obtain ⟨j, rfl, hj, hK, hmv, hbw⟩ := hrel
  obtain ⟨A, c, rfl⟩ := slice_of_own hbw
  have hok2 := hide hok
  clear hok
  by_cases hlt : j < ac.length
  ·have hM' := hM.row hb (by decide) hK
   have hcm := hM'.blk.cell
   have hcl' := own_ty hK hcl (not_blk hb (by decide))
   have hlb : (bs ++ (List.range j).flatMap (sgJ L cl t i)).length ≤ 700000 := by
    rw [List.length_append, flatMap_len _ (L * 4) (fun x => sgJ_length L cl t i x), List.length_range]
    have : j * (L * 4) ≤ 20000 * 32 := Nat.mul_le_mul (by omega) (by omega)
    omega
   have hKs := hK.size
   generalize hbs' : (bs ++ (List.range j).flatMap (sgJ L cl t i)) = bs' at *
   have hbse := hide hbs'
   clear hbs'
   go_wp2_with fail
   refine ref_inner hM' hok2.out hcl' hL hn hi hlt hbw hlb (by omega) ?_ ?_
   ·repeat (first | exact hN | refine Reg.NoQ.then ?_ | refine Reg.NoQ.inBlock ?_)
   ·iterate 53 (intro _)
    intro vb3 hk3 hmv3 hb3
    go_wp2_with fail
    exact ⟨⟨j + 1, by simp, by omega, hK.moved hmv hk3, hmv.trans hKs hmv3, by rw [rangeSnoc, ← List.append_assoc, hbse.out]; exact hb3⟩, by simp [intOf]; omega⟩
  ·have e : j = ac.length := by omega
   have he := hide e
   clear e
   go_wp2_with fail
   refine hQ _ _ _ _ _ _ _ _ _ _ _ _ _ _ _ _ _ _ _ _ _ _ _ _ _ _ _ _ _ _ _ _ _ _ _ _ _ _ _ _ _ _ _ _ _ _ _ _ _ _ _ _ _ _ _ _ _ _ _ _ _ wr _ hK hmv ?_
   have e2 := he.out
   subst e2
   exact hbw
end Go.Proofs.YtbjdgepfhhafjaaDoor
namespace Go.Proofs.YtbjdgepfhhafjaaDoor
open Go.RowKit
def numL {S : Type} [DecidableEq S] (l : List S) (s : S) : Nat := l.idxOf s
theorem get_numL {S : Type} [DecidableEq S] (l : List S) (s : S) : (meetL l s)[numL (meetL l s) s]? = some s := get_meetL l s
theorem numL_old {S : Type} [DecidableEq S] {l : List S} {s : S} (h : s ∈ l) : numL (meetL l s) s = l.idxOf s := by unfold numL meetL; rw [if_pos h]
theorem numL_new {S : Type} [DecidableEq S] {l : List S} {s : S} (h : s ∉ l) : numL (meetL l s) s = l.length := by
 unfold numL meetL
 rw [if_neg h, List.idxOf_append, if_neg h]
 simp
structure SgS (sg : Nat → List UInt8) (k : Nat) (ms : List (List UInt8)) (os : List Nat) : Prop where
 len : os.length = k
 nd : ms.Nodup
 src : ∀ s ∈ ms, ∃ i, i < k ∧ s = sg i
 at_ : ∀ (i e : Nat), os[i]? = some e → ms[e]? = some (sg i)
 le : ms.length ≤ k
theorem SgS.start (sg : Nat → List UInt8) : SgS sg 0 [] [] := ⟨rfl, List.nodup_nil, by simp, fun i e h => by simp at h, Nat.le_refl _⟩
theorem SgS.step {sg : Nat → List UInt8} {k : Nat} {ms : List (List UInt8)} {os : List Nat} (h : SgS sg k ms os) : SgS sg (k + 1) (meetL ms (sg k)) (os ++ [numL (meetL ms (sg k)) (sg k)]) := by
 refine ⟨by simp [h.len], nodup_meetL h.nd _, fun s hs => ?_, fun i e he => ?_, ?_⟩
 ·rcases mem_meetL.1 hs with hs | rfl
  ·obtain ⟨i, hi, e⟩ := h.src s hs
   exact ⟨i, by omega, e⟩
  ·exact ⟨k, by omega, rfl⟩
 ·by_cases hi : i < os.length
  ·rw [List.getElem?_append_left hi] at he
   exact prefix_get (prefix_meetL _ _) (h.at_ i e he)
  ·have h1 := lt_of_get he
   simp at h1
   obtain rfl : i = os.length := by omega
   simp at he
   subst he
   rw [h.len]
   exact get_numL ms (sg k)
 ·have h1 := length_meetL ms (sg k)
  have h2 := h.le
  exact Nat.le_trans h1 (by omega)
theorem SgS.iff {sg : Nat → List UInt8} {n : Nat} {ms : List (List UInt8)} {os : List Nat} (h : SgS sg n ms os) {i j : Nat} (hi : i < n) (hj : j < n) : os.getD i 0 = os.getD j 0 ↔ sg i = sg j := by
 obtain ⟨a, ha⟩ := get_lt (l := os) (i := i) (by rw [h.len]; exact hi)
 obtain ⟨b, hb⟩ := get_lt (l := os) (i := j) (by rw [h.len]; exact hj)
 rw [getD_some ha, getD_some hb]
 have h1 := h.at_ i a ha
 have h2 := h.at_ j b hb
 constructor
 ·rintro rfl
  exact Option.some.inj (h1.symm.trans h2)
 ·intro e
  rw [e] at h1
  exact (List.getElem?_inj (lt_of_get h1) h.nd).1 (h1.trans h2.symm)
theorem SgS.mem {sg : Nat → List UInt8} {n : Nat} {ms : List (List UInt8)} {os : List Nat} (h : SgS sg n ms os) (v : Nat) : v ∈ os ↔ v < ms.length := by
 constructor
 ·intro hv
  obtain ⟨i, hi⟩ := List.mem_iff_getElem?.1 hv
  exact lt_of_get (h.at_ i v hi)
 ·intro hv
  obtain ⟨s, hs⟩ := get_lt hv
  obtain ⟨i, hi, rfl⟩ := h.src s (List.mem_of_getElem? hs)
  obtain ⟨a, ha⟩ := get_lt (l := os) (i := i) (by rw [h.len]; exact hi)
  have h2 := h.at_ i a ha
  have : a = v := (List.getElem?_inj (lt_of_get h2) h.nd).1 (h2.trans hs.symm)
  subst this
  exact List.mem_of_getElem? ha
def encSg (l : List UInt8) : Value := .string ⟨l.toArray⟩
theorem keyS : KeyOK Tryd.prog 9 encSg := keyOK_string Tryd.underlying9 (fun l : List UInt8 => (⟨l.toArray⟩ : ByteArray)) (fun a b h => by
 have := congrArg (fun b : ByteArray => b.data.toList) h
 simpa using this)
theorem run_idx_len {P : Program} {T K E ty : TypeId} (hT : P.underlying T = some (.map K E)) {w : World} {g : Nat} {ks : List Value} (h : IdxMap w g ks) :
  (Builtin.len_ #[T] ty #[.map (some g)]).run P w = .ok (.int .i64 (ks.length : Int)) w := by
 obtain ⟨es, clock, h1, h2, h3⟩ := h
 have hg : (getObj g).run P w = .ok (.map es clock) w := by simp [getObj, Sem.run, h1]
 have hl : es.size = ks.length := by rw [← h2]; simp
 simp [Builtin.len_, run_underlying hT, hg, goInt, hl]
theorem run_sign {w : World} {base n : Nat} {v : Value} {l : List UInt8} (h : w.ownsRow base 5 1 v n (l.map encY)) (hn : l.length = n) (h0 : 0 < n) : (convert 134 9 v).run Tryd.prog w = .ok (encSg l) w := by
 obtain ⟨x, hx⟩ := get_lt (l := l) (i := 0) (by omega)
 obtain ⟨g, cap, rfl, -⟩ := own_get h (map_get (f := encY) hx)
 subst hn
 refine run_convert_bytes_back w 134 9 5 ⟨g, 0, none⟩ cap l Tryd.underlying134 Tryd.underlying5 Tryd.underlying9 fun j hj => ?_
 have hadd : (⟨g, 0, none⟩ : Addr).add j = ⟨g, j, none⟩ := by unfold Addr.add; split <;> simp_all
 rw [hadd]
 exact own_cell h (map_get (f := encY) (List.getElem?_eq_getElem hj))
end Go.Proofs.YtbjdgepfhhafjaaDoor
namespace Go.Proofs.YtbjdgepfhhafjaaDoor
theorem sub_len : ∀ (l m : List Nat), l.Nodup → (∀ a ∈ l, a ∈ m) → l.length ≤ m.length
 | [], _, _, _ => Nat.zero_le _
 | a :: l, m, hn, hs => by
  obtain ⟨m1, m2, rfl⟩ := List.append_of_mem (hs a List.mem_cons_self)
  have hn' := List.nodup_cons.1 hn
  have h1 := sub_len l (m1 ++ m2) hn'.2 (fun b hb => by
   have h2 := hs b (List.mem_cons_of_mem _ hb)
   have hne : b ≠ a := fun e => hn'.1 (e ▸ hb)
   simp only [List.mem_append, List.mem_cons] at h2 ⊢
   rcases h2 with h2 | h2 | h2
   ·exact .inl h2
   ·exact (hne h2).elim
   ·exact .inr h2)
  simp only [List.length_append, List.length_cons] at h1 ⊢
  omega
theorem nodup_cover : ∀ (l m : List Nat), l.Nodup → (∀ a ∈ l, a ∈ m) → m.length ≤ l.length → m.Nodup
 | [], m, _, _, hl => by
  have : m = [] := List.length_eq_zero_iff.1 (by simpa using hl)
  subst this
  exact List.nodup_nil
 | a :: l, m, hn, hs, hl => by
  obtain ⟨m1, m2, rfl⟩ := List.append_of_mem (hs a List.mem_cons_self)
  have hn' := List.nodup_cons.1 hn
  have hsub : ∀ b ∈ l, b ∈ m1 ++ m2 := fun b hb => by
   have h2 := hs b (List.mem_cons_of_mem _ hb)
   have hne : b ≠ a := fun e => hn'.1 (e ▸ hb)
   simp only [List.mem_append, List.mem_cons] at h2 ⊢
   rcases h2 with h2 | h2 | h2
   ·exact .inl h2
   ·exact (hne h2).elim
   ·exact .inr h2
  simp only [List.length_append, List.length_cons] at hl
  have h1 := nodup_cover l (m1 ++ m2) hn'.2 hsub (by simp; omega)
  refine List.perm_middle.nodup_iff.2 (List.nodup_cons.2 ⟨fun ha => ?_, h1⟩)
  have h2 := sub_len (a :: l) (m1 ++ m2) hn (fun b hb => by
   rcases List.mem_cons.1 hb with rfl | hb
   ·exact ha
   ·exact hsub b hb)
  simp at h2
  omega
section
variable {L n : Nat} {br : Nat → Nat → Nat → Nat} {acc : Nat → Bool}
structure ClsAt (L n : Nat) (br : Nat → Nat → Nat → Nat) (acc : Nat → Bool) (r : Nat) (cl : List Nat) (cnt : Nat) : Prop where
 len : cl.length = n
 iff : ∀ i j, i < n → j < n → (cl.getD i 0 = cl.getD j 0 ↔ EqS L n br acc r i j)
 mem : ∀ v, v ∈ cl ↔ v < cnt
variable {r cnt cnt' : Nat} {cl os : List Nat} {leaf : Nat → Nat}
theorem ClsAt.le (h : ClsAt L n br acc r cl cnt) : cnt ≤ n := by
 have := sub_len (List.range cnt) cl List.nodup_range (fun a ha => (h.mem a).2 (List.mem_range.1 ha))
 simpa [h.len] using this
theorem ClsAt.pos (h : ClsAt L n br acc r cl cnt) (hn : 0 < n) : 0 < cnt := by
 obtain ⟨x, hx⟩ := get_lt (l := cl) (i := 0) (by rw [h.len]; exact hn)
 have := (h.mem x).1 (List.mem_of_getElem? hx)
 omega
theorem ClsAt.val (h : ClsAt L n br acc r cl cnt) {i : Nat} (hi : i < n) : cl.getD i 0 < cnt := by
 obtain ⟨x, hx⟩ := get_lt (l := cl) (i := i) (by rw [h.len]; exact hi)
 rw [getD_some hx]
 exact (h.mem x).1 (List.mem_of_getElem? hx)
theorem ClsAt.small (h : ClsAt L n br acc r cl cnt) (hn : n ≤ 20000) (k : Nat) : cl.getD k 0 < 65536 := by
 by_cases hk : k < n
 ·have := h.val hk
  have := h.le
  omega
 ·rw [List.getD_eq_getElem?_getD, List.getElem?_eq_none (by rw [h.len]; omega)]
  simp
theorem ClsAt.step {t : List (List (List Nat))} {lf : List Nat} (hM : IsM L n (mleaf lf) (mbr t)) (h : ClsAt L n (mbr t) acc r cl cnt) (hn : n ≤ 20000) {ms : List (List UInt8)} (hs : SgS (sgn L n cl t) n ms os) : ClsAt L n (mbr t) acc (r + 1) os ms.length := by
 refine ⟨hs.len, fun i j hi hj => ?_, hs.mem⟩
 rw [hs.iff hi hj, sgn_iff (h.small hn)]
 refine and_congr (h.iff i j hi hj) (forall_congr' fun x => forall_congr' fun hx => forall_congr' fun k => forall_congr' fun hk => and_congr ?_ ?_)
 ·exact h.iff _ _ (hM.br_lt x i k hx hi hk) (hM.br_lt x j k hx hj hk)
 ·exact h.iff _ _ (hM.br_lt x k i hx hk hi) (hM.br_lt x k j hx hk hj)
theorem ClsAt.grow (h : ClsAt L n br acc r cl cnt) (h' : ClsAt L n br acc (r + 1) os cnt') : cnt ≤ cnt' := by
 have := sub_len (List.range cnt) ((List.range cnt').map fun v => cl.getD (os.idxOf v) 0) List.nodup_range (fun u hu => by
  obtain ⟨i, hi⟩ := List.mem_iff_getElem?.1 ((h.mem u).2 (List.mem_range.1 hu))
  have hin : i < n := by have := lt_of_get hi; rwa [h.len] at this
  have hv := h'.val hin
  refine List.mem_map.2 ⟨os.getD i 0, List.mem_range.2 hv, ?_⟩
  have hm := (h'.mem _).2 hv
  have hlt := List.idxOf_lt_length_of_mem hm
  rw [h'.len] at hlt
  have he : os.getD (os.idxOf (os.getD i 0)) 0 = os.getD i 0 := by
   rw [getD_some (x := os.getD i 0)]
   rw [List.getElem?_eq_getElem (List.idxOf_lt_length_of_mem hm), List.getElem_idxOf]
  rw [(h.iff _ _ hlt hin).2 ((h'.iff _ _ hlt hin).1 he).1, getD_some hi])
 simpa using this
theorem ClsAt.rest (h : ClsAt L n br acc r cl cnt) (h' : ClsAt L n br acc (r + 1) os cnt) {i j : Nat} (hi : i < n) (hj : j < n) (he : EqS L n br acc r i j) : EqS L n br acc (r + 1) i j := by
 have hval : ∀ i, i < n → cl.getD (os.idxOf (os.getD i 0)) 0 = cl.getD i 0 := fun i hin => by
  have hv := h'.val hin
  have hm := (h'.mem _).2 hv
  have hlt := List.idxOf_lt_length_of_mem hm
  rw [h'.len] at hlt
  have he : os.getD (os.idxOf (os.getD i 0)) 0 = os.getD i 0 := by
   rw [getD_some (x := os.getD i 0)]
   rw [List.getElem?_eq_getElem (List.idxOf_lt_length_of_mem hm), List.getElem_idxOf]
  exact (h.iff _ _ hlt hin).2 ((h'.iff _ _ hlt hin).1 he).1
 have hnd := nodup_cover (List.range cnt) ((List.range cnt).map fun v => cl.getD (os.idxOf v) 0) List.nodup_range (fun u hu => by
  obtain ⟨i, hi⟩ := List.mem_iff_getElem?.1 ((h.mem u).2 (List.mem_range.1 hu))
  have hin : i < n := by have := lt_of_get hi; rwa [h.len] at this
  exact List.mem_map.2 ⟨os.getD i 0, List.mem_range.2 (h'.val hin), by rw [hval i hin, getD_some hi]⟩) (by simp)
 refine (h'.iff i j hi hj).1 ?_
 have hg : ∀ i, i < n → ((List.range cnt).map fun v => cl.getD (os.idxOf v) 0)[os.getD i 0]? = some (cl.getD i 0) := fun i hin => by
  rw [List.getElem?_map, List.getElem?_range (h'.val hin)]
  simp only [Option.map_some, hval i hin]
 have h1 := hg i hi
 have h2 := hg j hj
 rw [(h.iff i j hi hj).2 he] at h1
 exact (List.getElem?_inj (lt_of_get h1) hnd).1 (h1.trans h2.symm)
theorem EqS.le {r : Nat} : ∀ (d : Nat) {i j : Nat}, EqS L n br acc (r + d) i j → EqS L n br acc r i j
 | 0, _, _, h => h
 | d + 1, _, _, h => EqS.le d h.1
theorem EqS.stable (hM : IsM L n leaf br) {r : Nat} (hs : ∀ i j, i < n → j < n → EqS L n br acc r i j → EqS L n br acc (r + 1) i j) : ∀ (d : Nat) {i j : Nat}, i < n → j < n → EqS L n br acc r i j → EqS L n br acc (r + d) i j
 | 0, _, _, _, _, h => h
 | d + 1, i, j, hi, hj, h => by
  refine ⟨EqS.stable hM hs d hi hj h, fun x hx k hk => ?_⟩
  have h1 := (hs i j hi hj h).2 x hx k hk
  exact ⟨EqS.stable hM hs d (hM.br_lt x i k hx hi hk) (hM.br_lt x j k hx hj hk) h1.1, EqS.stable hM hs d (hM.br_lt x k i hx hk hi) (hM.br_lt x k j hx hk hj) h1.2⟩
def EqD (L n : Nat) (br : Nat → Nat → Nat → Nat) (acc : Nat → Bool) (d : Int) (i j : Nat) : Prop := if d < 0 then ∀ r, EqS L n br acc r i j else EqS L n br acc d.toNat i j
structure ClsD (L n : Nat) (br : Nat → Nat → Nat → Nat) (acc : Nat → Bool) (d : Int) (cl : List Nat) : Prop where
 len : cl.length = n
 iff : ∀ i j, i < n → j < n → (cl.getD i 0 = cl.getD j 0 ↔ EqD L n br acc d i j)
 lt : ∀ i, i < n → cl.getD i 0 < n
theorem ClsAt.atDepth (h : ClsAt L n br acc r cl cnt) {d : Int} (hd : (r : Int) = d) : ClsD L n br acc d cl := by
 refine ⟨h.len, fun i j hi hj => ?_, fun i hi => Nat.lt_of_lt_of_le (h.val hi) h.le⟩
 unfold EqD
 rw [if_neg (by omega), ← hd]
 exact h.iff i j hi hj
theorem ClsAt.atRest (hM : IsM L n leaf br) (h : ClsAt L n br acc r cl cnt) (h' : ClsAt L n br acc (r + 1) os cnt) {d : Int} (hd : d < 0 ∨ (r : Int) ≤ d) : ClsD L n br acc d cl := by
 have hst := fun d {i j} => EqS.stable hM (fun i j hi hj he => h.rest h' hi hj he) d (i := i) (j := j)
 refine ⟨h.len, fun i j hi hj => ?_, fun i hi => Nat.lt_of_lt_of_le (h.val hi) h.le⟩
 rw [h.iff i j hi hj]
 unfold EqD
 by_cases h0 : d < 0
 ·rw [if_pos h0]
  constructor
  ·intro he k
   have h1 := hst k hi hj he
   exact EqS.le (r := k) r (by rw [Nat.add_comm]; exact h1)
  ·exact fun he => he r
 ·rw [if_neg h0]
  have : d.toNat = r + (d.toNat - r) := by omega
  rw [this]
  exact ⟨fun he => hst _ hi hj he, fun he => EqS.le _ he⟩
def cls0 (ac : List Bool) : List Nat := ac.map fun b => if (b != macc ac 0) = true then 1 else 0
theorem cls0_get {ac : List Bool} {i : Nat} {b : Bool} (h : ac[i]? = some b) : (cls0 ac)[i]? = some (if (b != macc ac 0) = true then 1 else 0) := by
 unfold cls0
 rw [List.getElem?_map, h]
 rfl
def cntTo (l : List Nat) : Nat := l.foldl (fun c x => max c (x + 1)) 0
theorem cntTo_spec : ∀ (l : List Nat) (c v : Nat), v < l.foldl (fun c x => max c (x + 1)) c ↔ v < c ∨ ∃ x ∈ l, v ≤ x
 | [], c, v => by simp
 | y :: l, c, v => by
  rw [List.foldl_cons, cntTo_spec l]
  simp only [List.mem_cons, exists_eq_or_imp]
  generalize (∃ x, x ∈ l ∧ v ≤ x) = R
  rw [← or_assoc]
  have : v < max c (y + 1) ↔ v < c ∨ v ≤ y := by omega
  rw [this]
theorem ClsAt.zero {ac : List Bool} (hn : 0 < ac.length) : ClsAt L ac.length br (macc ac) 0 (cls0 ac) (cntTo (cls0 ac)) := by
 have h01 : ∀ x ∈ cls0 ac, x ≤ 1 := fun x hx => by
  obtain ⟨b, _, rfl⟩ := List.mem_map.1 hx
  split <;> omega
 obtain ⟨b0, hb0⟩ := get_lt hn
 have hz : (0 : Nat) ∈ cls0 ac := by
  have := cls0_get hb0
  have he : macc ac 0 = b0 := getD_some hb0
  rw [he] at this
  simp at this
  exact List.mem_of_getElem? this
 refine ⟨by simp [cls0], fun i j hi hj => ?_, fun v => ?_⟩
 ·obtain ⟨a, ha⟩ := get_lt hi
  obtain ⟨b, hb⟩ := get_lt hj
  rw [getD_some (cls0_get ha), getD_some (cls0_get hb)]
  show _ ↔ macc ac i = macc ac j
  have e1 : macc ac i = a := getD_some ha
  have e2 : macc ac j = b := getD_some hb
  rw [e1, e2]
  cases a <;> cases b <;> cases macc ac 0 <;> simp
 ·unfold cntTo
  rw [cntTo_spec]
  constructor
  ·exact fun h => .inr ⟨v, h, Nat.le_refl _⟩
  ·rintro (h | ⟨x, hx, hv⟩)
   ·omega
   ·have := h01 x hx
    have : v = 0 ∨ v = x := by omega
    rcases this with rfl | rfl
    ·exact hz
    ·exact hx
end
end Go.Proofs.YtbjdgepfhhafjaaDoor
namespace Go.Proofs.YtbjdgepfhhafjaaDoor
open Go.RowKit
theorem ref_outer {w0 w : World} {base base2 gM L gc cc gm go : Nat} {vacc vleaf vbr : Value} {ac : List Bool} {lf cl : List Nat} {t : List (List (List Nat))} (hM : MachA w0 base gM L vacc vleaf vbr ac lf t) (hok : MOK L ac lf t)
  (hcl : w0.ownsRow base2 3 1 (.slice (some ⟨gc, 0, none⟩) ac.length cc) ac.length (cl.map encN)) (hL : L ≤ 8) (hn : ac.length ≤ 20000)
  (hBw : Below w0.heap.size w0 w) (hmap : IdxMap w gm []) (hout : Blk w go 3 (fillC ac.length [])) (hgm : w0.heap.size ≤ gm) (hgo : w0.heap.size ≤ go)
  {u2 u3 u4 u5 u8 u9 u10 u11 u12 u13 u14 u15 u16 u17 u18 u19 u20 u23 u24 u25 u26 u27 u28 u29 u30 u31 u32 u33 u34 u35 u36 u37 u38 u39 u40 u41 u42 u43 u44 u45 u46 u47 u48 u49 u50 u51 u52 u53 u54 u55 u56 u57 u58 u59 u60 u61 u62 u63 u64 u65 u66 u67 u68 u69 u70 u71 u72 u73 u74 u75 u76 u77 u78 u79 u80 u81 u82 u83 u84 u85 u86 u87 u88 u89 u90 u91 u92 u93 u94 u95 u96 u97 u98 u99 u100 u101 u102 u103 u104 u105 u106 u107 u108 u109 u110 u111 u112 u113 u114 u115 u116 u117 u118 : Value}
  {Q : Exit → Act → World → Prop} (hN : Reg.NoQ Q)
  (hQ : ∀ (x8 x9 x10 x11 x12 x13 x14 x15 x22 x23 x24 x25 x26 x27 x28 x29 x30 x31 x32 x33 x34 x35 x36 x37 x38 x39 x40 x41 x42 x43 x44 x45 x46 x47 x48 x49 x50 x51 x52 x53 x54 x55 x56 x57 x58 x59 x60 x61 x62 x63 x64 x65 x66 x67 x68 x69 x70 x71 x72 x73 x74 x75 x76 x77 x78 x79 x80 x81 x82 x83 x84 x85 x86 x87 x88 x89 x90 x91 x92 x93 x94 x95 x96 x97 x98 x99 x100 x101 x102 x103 x104 x105 x106 x107 x108 x109 x110 x111 x112 x113 x114 x115 : Value) (w' : World) (ms : List (List UInt8)) (os : List Nat), Below w0.heap.size w0 w' → IdxMap w' gm (ms.map encSg) → Blk w' go 3 (fillC ac.length os) → SgS (sgn L ac.length cl t) ac.length ms os →
   Q (.exit 0) ⟨List.toArray ((.pointer (some ⟨gM, 0, none⟩)) :: (.slice (some ⟨gc, 0, none⟩) ac.length cc) :: u2 :: u3 :: u4 :: u5 :: (.map (some gm)) :: (.slice (some ⟨go, 0, none⟩) ac.length ac.length) :: x8 :: x9 :: x10 :: x11 :: x12 :: x13 :: x14 :: x15 :: u16 :: u17 :: u18 :: u19 ::
   u20 :: (.int .i64 ac.length) :: x22 :: x23 :: x24 :: x25 :: x26 :: x27 :: x28 :: x29 :: x30 :: x31 :: x32 :: x33 :: x34 :: x35 :: x36 :: x37 :: x38 :: x39 :: x40 :: x41 :: x42 :: x43 :: x44 :: x45 :: x46 :: x47 :: x48 :: x49 :: x50 :: x51 :: x52 :: x53 :: x54 ::
   x55 :: x56 :: x57 :: x58 :: x59 :: x60 :: x61 :: x62 :: x63 :: x64 :: x65 :: x66 :: x67 :: x68 :: x69 :: x70 :: x71 :: x72 :: x73 :: x74 :: x75 :: x76 :: x77 :: x78 :: x79 :: x80 :: x81 :: x82 :: x83 :: x84 :: x85 :: x86 :: x87 :: x88 :: x89 :: x90 :: x91 ::
   x92 :: x93 :: x94 :: x95 :: x96 :: x97 :: x98 :: x99 :: x100 :: x101 :: x102 :: x103 :: x104 :: x105 :: x106 :: x107 :: x108 :: x109 :: x110 :: x111 :: x112 :: x113 :: x114 :: x115 :: u116 :: u117 :: u118 :: []), []⟩ w') :
  (Code.loop (loopBody Tryd.f74 0)).wp Tryd.prog Q ⟨List.toArray ((.pointer (some ⟨gM, 0, none⟩)) :: (.slice (some ⟨gc, 0, none⟩) ac.length cc) :: u2 :: u3 :: u4 :: u5 :: (.map (some gm)) :: (.slice (some ⟨go, 0, none⟩) ac.length ac.length) :: u8 :: u9 :: u10 :: u11 :: u12 :: u13 :: u14 :: u15 :: u16 :: u17 :: u18 :: u19 ::
   u20 :: (.int .i64 ac.length) :: (.int .i64 0) :: u23 :: u24 :: u25 :: u26 :: u27 :: u28 :: u29 :: u30 :: u31 :: u32 :: u33 :: u34 :: u35 :: u36 :: u37 :: u38 :: u39 :: u40 :: u41 :: u42 :: u43 :: u44 :: u45 :: u46 :: u47 :: u48 :: u49 :: u50 :: u51 :: u52 ::
   u53 :: u54 :: u55 :: u56 :: u57 :: u58 :: u59 :: u60 :: u61 :: u62 :: u63 :: u64 :: u65 :: u66 :: u67 :: u68 :: u69 :: u70 :: u71 :: u72 :: u73 :: u74 :: u75 :: u76 :: u77 :: u78 :: u79 :: u80 :: u81 :: u82 :: u83 :: u84 :: u85 :: u86 :: u87 :: u88 :: u89 ::
   u90 :: u91 :: u92 :: u93 :: u94 :: u95 :: u96 :: u97 :: u98 :: u99 :: u100 :: u101 :: u102 :: u103 :: u104 :: u105 :: u106 :: u107 :: u108 :: u109 :: u110 :: u111 :: u112 :: u113 :: u114 :: u115 :: u116 :: u117 :: u118 :: []), []⟩ w := by
 conv => arg 2; arg 1; whnf
 go_loopw [22] (fun ii wr => ∃ (i : Nat) (ms : List (List UInt8)) (os : List Nat), ii = .int .i64 (i : Int) ∧ i ≤ ac.length ∧ Below w0.heap.size w0 wr ∧ IdxMap wr gm (ms.map encSg) ∧ Blk wr go 3 (fillC ac.length os) ∧ Hid (SgS (sgn L ac.length cl t) i ms os)) (fun ii _ => ac.length - (intOf ii).toNat)
 case atStart => exact ⟨0, [], [], rfl, Nat.zero_le _, hBw, hmap, hout, SgS.start _⟩
 case round =>
  obtain ⟨i, ms, os, rfl, hi, hB, hmp, hou, hS⟩ := hrel
  have hok2 := hide hok
  clear hok
  by_cases hlt : i < ac.length
  ·have hK0 := Kept.of_below hB (fun _ => False)
   have hM' := hM.keep hK0 (fun _ _ _ h => h.elim)
   have hcl' := own_ty hK0 hcl (fun _ _ h => h.elim)
   have hll := hcl.1
   have hlen : cl.length = ac.length := by simpa using hll
   obtain ⟨p, hpg⟩ := get_lt (l := cl) (i := i) (by omega)
   have hcp := own_cell hcl' (map_get (f := encN) hpg)
   simp only [encN] at hcp
   have hHp := hide hpg
   clear hll hlen hpg
   go_wp2_with fail
   go_still_tail 11, (by kernel_rfl)
   change wpList _ _ _ _ _ wr.drew
   have hKa : Kept wr ((wr.alloc (.cells #[.int .u8 (b8 p : Int), .int .u8 (b8 (n8 p) : Int)] 5)).drew) (fun _ => False) := ((Kept.refl wr _).alloc _).drew
   have hba : ((wr.alloc (.cells #[.int .u8 (b8 p : Int), .int .u8 (b8 (n8 p) : Int)] 5)).drew).ownsRow w0.heap.size 5 1 (.slice (some ⟨wr.heap.size, 0, none⟩) 2 2) (bts p).length ((bts p).map encY) :=
    own_of_blk (e := 5) (Blk.new wr 5 #[.int .u8 (b8 p : Int), .int .u8 (b8 (n8 p) : Int)]) hB.size rfl (by omega)
   have hMa := hM'.keep hKa (fun _ _ _ h => h.elim)
   have hcla := own_ty hKa hcl' (fun _ _ h => h.elim)
   have hsz := hB.size
   go_wp2_with fail
   refine ref_middle hMa hok2.out hcla hL hn hlt hba (by simp [bts]) (by simp; omega) ?_ ?_
   ·repeat (first | exact hN | refine Reg.NoQ.then ?_ | refine Reg.NoQ.inBlock ?_)
   ·iterate 62 (intro _)
    rename_i wc
    intro vb3 hk3 hmv3 hb3
    have hsl : (bts p ++ (List.range ac.length).flatMap (sgJ L cl t i)).length = 2 + ac.length * (L * 4) := by
     rw [List.length_append, flatMap_len _ (L * 4) (fun x => sgJ_length L cl t i x), List.length_range]; rfl
    have hsg : bts p ++ (List.range ac.length).flatMap (sgJ L cl t i) = sgn L ac.length cl t i := by
     unfold sgn
     rw [getD_some hHp.out]
    have hrs := run_sign hb3 rfl (by omega)
    rw [hsg] at hrs hb3
    have hKc : Kept wr wc (fun _ => False) := hKa.trans hk3 (fun b hb hx => by
     simp [Value.ownBlock] at hx
     omega)
    have hmc := hmp.kept hKc id
    have hoc := hou.kept hKc id
    have hlk := run_idx_lookup keyS Tryd.underlying132 zero3 hmc (sgn L ac.length cl t i)
    have hosl := hide hS.out.len
    have hco : wc.cell? ⟨go, i, none⟩ = some (.int .i64 0) := by
     rw [hoc.cell, ← hosl.out]
     exact fillC_get (by rw [hosl.out]; exact hlt)
    have hfo := hoc.frozen i
    have hgoc := hoc.lt
    have hstep := hide hS.out.step
    have hBc : Below w0.heap.size w0 wc := hB.trans (hKc.below hsz fun _ _ h => h)
    clear hb3 hsl hMa hcla hba hKa hk3 hmv3 hM' hcl' hcp
    generalize hsg2 : sgn L ac.length cl t i = sg at *
    have hsg3 := hide hsg2
    clear hsg2 hsg
    by_cases hs : sg ∈ ms
    ·simp only [hs, if_true, decide_true] at hlk
     have hnum := hide (numL_old hs)
     have hss := hide hs
     clear hs
     go_wp2_with fail
     have hou2 := hoc.set_ i (.int .i64 (numL (meetL ms sg) sg : Int))
     refine ⟨⟨i + 1, meetL ms sg, os ++ [numL (meetL ms sg) sg], by simp, by omega, hBc.setCell (by simp; omega) _, ?_, ?_, hstep⟩, by simp [intOf]; omega⟩
     ·have : meetL ms sg = ms := by unfold meetL; rw [if_pos hss.out]
      rw [this]
      exact hmc.kept ((Kept.refl wc (fun k => k = go)).setCell (p := ⟨go, i, none⟩) (fun _ => rfl) _) (fun e => blk_map_ne hoc hmc e.symm)
     ·rw [hnum.out] at hou2 ⊢
      rw [← fillC_set (by rw [hosl.out]; exact hlt), hosl.out]
      exact hou2
    ·simp only [hs, if_false, decide_false] at hlk
     obtain ⟨w4, hup, hm4, hg4, hs4⟩ := run_idx_store keyS Tryd.underlying132 hmc sg hs
     have hln : ∀ ty, (Builtin.len_ #[132] ty #[.map (some gm)]).run Tryd.prog wc = .ok (.int .i64 (ms.length : Int)) wc := fun ty => by
      have := run_idx_len (ty := ty) Tryd.underlying132 hmc
      simpa using this
     have hk4 := Kept.of_grown hg4
     have hgne : go ≠ gm := blk_map_ne hoc hmc
     have hoc4 := hoc.kept hk4 (fun e => hgne (Option.some.inj e).symm)
     have hco4 : w4.cell? ⟨go, i, none⟩ = some (.int .i64 0) := by
      rw [hoc4.cell, ← hosl.out]
      exact fillC_get (by rw [hosl.out]; exact hlt)
     have hfo4 := hoc4.frozen i
     have hgoc4 := hoc4.lt
     have hnum := hide (numL_new hs)
     have hss := hide hs
     have hBc4 : Below w0.heap.size w0 w4 := hBc.trans (hk4.below hBc.size fun b hb e => by
      have := Option.some.inj e
      omega)
     clear hs hs4 hg4
     go_wp2_with fail
     have hou2 := hoc4.set_ i (.int .i64 (ms.length : Int))
     refine ⟨⟨i + 1, meetL ms sg, os ++ [numL (meetL ms sg) sg], by simp, by omega, hBc4.setCell (by simp; omega) _, ?_, ?_, hstep⟩, by simp [intOf]; omega⟩
     ·have : meetL ms sg = ms ++ [sg] := by unfold meetL; rw [if_neg hss.out]
      rw [this]
      exact hm4.kept ((Kept.refl w4 (fun k => k = go)).setCell (p := ⟨go, i, none⟩) (fun _ => rfl) _) (fun e => hgne e.symm)
     ·rw [hnum.out, ← fillC_set (by rw [hosl.out]; exact hlt), hosl.out]
      exact hou2
  ·have e : i = ac.length := by omega
   have he := hide e
   clear e
   go_wp2_with fail
   have e2 := he.out
   subst e2
   exact hQ _ _ _ _ _ _ _ _ _ _ _ _ _ _ _ _ _ _ _ _ _ _ _ _ _ _ _ _ _ _ _ _ _ _ _ _ _ _ _ _ _ _ _ _ _ _ _ _ _ _ _ _ _ _ _ _ _ _ _ _ _ _ _ _ _ _ _ _ _ _ _ _ _ _ _ _ _ _ _ _ _ _ _ _ _ _ _ _ _ _ _ _ _ _ _ _ _ _ _ _ _ _ wr ms os hB hmp hou hS.out
end Go.Proofs.YtbjdgepfhhafjaaDoor
namespace Go.Proofs.YtbjdgepfhhafjaaDoor
open Go.RowKit
theorem fillC_own {w : World} {base g L : Nat} {row : List Nat} (h : Blk w g 3 (fillC L row)) (hl : row.length = L) (hb : base ≤ g) (hL : L ≤ 1000000) : w.ownsRow base 3 1 (.slice (some ⟨g, 0, none⟩) L L) L (row.map encN) := by
 have h1 := own_of_blk (n := L) h hb (by simp [fillC]; omega) hL
 have h2 : (fillC L row).toList = row.map encN := by simp [fillC, hl]
 rwa [h2] at h1
theorem refine_any {w : World} {base base2 gM L gc cc : Nat} {vacc vleaf vbr : Value} {ac : List Bool} {lf cl : List Nat} {t : List (List (List Nat))} (hM : MachA w base gM L vacc vleaf vbr ac lf t) (hok : MOK L ac lf t)
  (hcl : w.ownsRow base2 3 1 (.slice (some ⟨gc, 0, none⟩) ac.length cc) ac.length (cl.map encN)) (hL : L ≤ 8) (hn : ac.length ≤ 20000) :
  Calls Tryd.prog 74 #[.pointer (some ⟨gM, 0, none⟩), .slice (some ⟨gc, 0, none⟩) ac.length cc] w (Ret fun v w' => Below w.heap.size w w' ∧ ∃ (go : Nat) (ms : List (List UInt8)) (os : List Nat),
   v = .tuple #[.slice (some ⟨go, 0, none⟩) ac.length ac.length, .int .i64 (ms.length : Int)] ∧ w'.ownsRow w.heap.size 3 1 (.slice (some ⟨go, 0, none⟩) ac.length ac.length) ac.length (os.map encN) ∧ SgS (sgn L ac.length cl t) ac.length ms os) := by
 obtain ⟨gm, w1, hmk, hmap, hb1, hgm⟩ := mkmap_facts 132 w
 obtain ⟨go, w2, hmk2, hrow, hb2, hgo⟩ := mk_row w1 ac.length (by omega)
 rw [← fillC_nil] at hrow
 have hsz := hb1.size
 have hB2 : Below w.heap.size w w2 := hb1.trans (hb2.mono hsz)
 have hmap2 := hmap.kept (Kept.of_below hb2 (fun _ => False)) id
 go_enter Tryd.func74, Tryd.ntmps74
 go_wp2_with fail
 refine ref_outer hM hok hcl hL hn hB2 hmap2 hrow hgm (by omega) ?_ ?_
 ·repeat (first | exact Reg.NoQ.body (fun _ _ h => h) (fun _ h => h) | refine Reg.NoQ.then ?_ | refine Reg.NoQ.inBlock ?_)
 iterate 102 (intro _)
 intro w3 ms os hB3 hm3 hr3 hS
 have hSS := hide hS
 have hln : ∀ ty, (Builtin.len_ #[132] ty #[.map (some gm)]).run Tryd.prog w3 = .ok (.int .i64 (ms.length : Int)) w3 := fun ty => by
  have := run_idx_len (ty := ty) Tryd.underlying132 hm3
  simpa using this
 clear hS hmk hmk2
 go_wp2_with fail
 go_ret2
 exact ⟨hB3, go, ms, os, rfl, fillC_own hr3 hSS.out.len (by omega) (by omega), hSS.out⟩
end Go.Proofs.YtbjdgepfhhafjaaDoor
namespace Go.Proofs.YtbjdgepfhhafjaaDoor
open Go.RowKit
theorem states_any {w : World} {base gM L : Nat} {vacc vleaf vbr : Value} {ac : List Bool} {lf : List Nat} {t : List (List (List Nat))} (hM : MachA w base gM L vacc vleaf vbr ac lf t) (_ : ac.length ≤ 20000) :
  Calls Tryd.prog 37 #[.pointer (some ⟨gM, 0, none⟩)] w fun e w' => e = .returned (.int .i64 (ac.length : Int)) ∧ w = w' := by
 obtain ⟨A, c, rfl⟩ := slice_of_own hM.acc
 have hcm := hM.blk.cell
 go_enter Tryd.func37, Tryd.ntmps37
 go_wp2
 go_ret
 exact ⟨rfl, rfl⟩
theorem fillC_zero {L : Nat} {row : List Nat} (h : row.length < L) : fillC L (row ++ [0]) = fillC L row := by
 rw [← fillC_set h]
 apply Array.ext_getElem?
 intro i
 rw [Array.getElem?_setIfInBounds]
 split
 ·rename_i e
  subst e
  split
  ·exact (fillC_get h).symm
  ·rename_i h2
   simp [fillC] at h2
   omega
 ·rfl
theorem cls_first {w0 w : World} {base gM L go : Nat} {vacc vleaf vbr : Value} {ac : List Bool} {lf : List Nat} {t : List (List (List Nat))} (hM : MachA w0 base gM L vacc vleaf vbr ac lf t) (hn : ac.length ≤ 20000)
    (hBw : Below w0.heap.size w0 w) (hout : Blk w go 3 (fillC ac.length [])) (hgo : w0.heap.size ≤ go)
    {u1 u2 u3 u4 u6 u7 u8 u9 u10 u11 u12 u13 u14 u15 u16 u17 u18 u19 u23 u24 u25 u26 u27 u28 u29 u30 u31 u32 u33 u34 u35 u36 u37 u38 u39 u40 u41 u42 u43 u44 u45 u46 u47 u48 u49 u50 u51 u52 u53 u54 u55 u56 u57 u58 u59 u60 u61 u62 u63 u64 u65 u66 : Value}
    {Q : Exit → Act → World → Prop}
    (hQ : ∀ (x6 x7 x22 x23 x24 x25 x26 x27 x28 x29 x30 x31 x32 x33 x34 x35 x36 x37 x38 : Value) (w' : World), Below w0.heap.size w0 w' → Blk w' go 3 (fillC ac.length (cls0 ac)) →
      Q (.exit 0) ⟨List.toArray ((.pointer (some ⟨gM, 0, none⟩)) :: u1 :: u2 :: u3 :: u4 :: (.slice (some ⟨go, 0, none⟩) ac.length ac.length) :: x6 :: x7 :: u8 :: u9 :: u10 :: u11 :: u12 :: u13 :: u14 :: u15 :: u16 :: u17 :: u18 :: u19 :: vacc :: (.int .i64 ac.length) :: x22 :: x23 :: x24 ::
      x25 :: x26 :: x27 :: x28 :: x29 :: x30 :: x31 :: x32 :: x33 :: x34 :: x35 :: x36 :: x37 :: x38 :: u39 :: u40 :: u41 :: u42 :: u43 :: u44 :: u45 :: u46 :: u47 :: u48 :: u49 :: u50 :: u51 :: u52 :: u53 :: u54 :: u55 :: u56 :: u57 :: u58 :: u59 :: u60 :: u61 ::
      u62 :: u63 :: u64 :: u65 :: u66 :: []), []⟩ w') :
    (Code.loop (loopBody Tryd.f54 0)).wp Tryd.prog Q ⟨List.toArray ((.pointer (some ⟨gM, 0, none⟩)) :: u1 :: u2 :: u3 :: u4 :: (.slice (some ⟨go, 0, none⟩) ac.length ac.length) :: u6 :: u7 :: u8 :: u9 :: u10 :: u11 :: u12 :: u13 :: u14 :: u15 :: u16 :: u17 :: u18 :: u19 :: vacc :: (.int .i64 ac.length) :: (.int .i64 0) :: u23 ::
      u24 :: u25 :: u26 :: u27 :: u28 :: u29 :: u30 :: u31 :: u32 :: u33 :: u34 :: u35 :: u36 :: u37 :: u38 :: u39 :: u40 :: u41 :: u42 :: u43 :: u44 :: u45 :: u46 :: u47 :: u48 :: u49 :: u50 :: u51 :: u52 :: u53 :: u54 :: u55 :: u56 :: u57 :: u58 :: u59 :: u60 ::
      u61 :: u62 :: u63 :: u64 :: u65 :: u66 :: []), []⟩ w := by
  conv => arg 2; arg 1; whnf
  go_loopw [22] (fun ii wr => ∃ (k : Nat) (row : List Nat), ii = .int .i64 (k : Int) ∧ k ≤ ac.length ∧ Below w0.heap.size w0 wr ∧ Blk wr go 3 (fillC ac.length row) ∧ Hid (row = (cls0 ac).take k) ∧ row.length ≤ k ∧ k ≤ row.length) (fun ii _ => ac.length - (intOf ii).toNat)
  case atStart => exact ⟨0, [], rfl, Nat.zero_le _, hBw, hout, by show _ = _; simp, by simp, by simp⟩
  case round =>
    obtain ⟨k, row, rfl, hk, hB, hou, hrow, hr1, hr2⟩ := hrel
    obtain rfl : k = row.length := by omega
    by_cases hlt : row.length < ac.length
    · have hM' := hM.keep (Kept.of_below hB (fun _ => False)) (fun _ _ _ h => h.elim)
      have hcm := hM'.blk.cell
      obtain ⟨b, hb⟩ := get_lt hlt
      obtain ⟨b0, hb0⟩ := get_lt (l := ac) (i := 0) (by omega)
      obtain ⟨ga, ca, rfl, hc1⟩ := own_get hM'.acc (map_get (f := Value.bool) hb)
      have hc0 := own_cell hM'.acc (map_get (f := Value.bool) hb0)
      have hnx := hide (cls0_get hb)
      have hm0 := hide (show macc ac 0 = b0 from getD_some hb0)
      have hcg : wr.cell? ⟨go, row.length, none⟩ = some (.int .i64 0) := by rw [hou.cell]; exact fillC_get hlt
      have hfg := hou.frozen row.length
      have hgl := hou.lt
      have hsn := hide (take_snoc hnx.out)
      clear hb hb0
      cases b <;> cases b0
      all_goals
        go_wp2_with fail
        first
        | (have hou2 := hou.set_ row.length (.int .i64 (1 : Nat))
           rw [fillC_set hlt] at hou2
           refine ⟨⟨row.length + 1, row ++ [1], by simp, by omega, hB.setCell (by simp; omega) _, hou2, ?_, by simp, by simp⟩, by simp [intOf]; omega⟩
           show _ = _
           rw [hsn.out, hm0.out, ← hrow.out]
           rfl)
        | (refine ⟨⟨row.length + 1, row ++ [0], by simp, by omega, hB, by rw [fillC_zero hlt]; exact hou, ?_, by simp, by simp⟩, by simp [intOf]; omega⟩
           show _ = _
           rw [hsn.out, hm0.out, ← hrow.out]
           rfl)
    · have e : row.length = ac.length := by omega
      have he := hide e
      clear e
      go_wp2_with fail
      refine hQ _ _ _ _ _ _ _ _ _ _ _ _ _ _ _ _ _ _ _ wr hB ?_
      have h1 := hrow.out
      rw [List.take_of_length_le (by simp [cls0]; omega)] at h1
      rw [← h1]
      exact hou
theorem cls_count {w : World} {base go n : Nat} {cl : List Nat} (hcl : w.ownsRow base 3 1 (.slice (some ⟨go, 0, none⟩) n n) n (cl.map encN)) (hn : n ≤ 20000) (hv : ∀ x ∈ cl, x ≤ 60000)
  {u0 u1 u2 u3 u4 u5 u6 u7 u9 u10 u11 u12 u13 u14 u15 u16 u17 u18 u19 u20 u21 u22 u23 u24 u25 u26 u27 u28 u29 u30 u31 u32 u33 u34 u35 u36 u37 u38 u42 u43 u44 u45 u46 u47 u48 u49 u50 u51 u52 u53 u54 u55 u56 u57 u58 u59 u60 u61 u62 u63 u64 u65 u66 : Value}
  {Q : Exit → Act → World → Prop}
  (hQ : ∀ (x10 x41 x42 x43 x44 x45 x46 x47 x48 x49 : Value), Q (.exit 2) ⟨List.toArray (u0 :: u1 :: u2 :: u3 :: u4 :: u5 :: u6 :: u7 :: (.int .i64 (cntTo cl : Nat)) :: u9 :: x10 :: u11 :: u12 :: u13 :: u14 :: u15 :: u16 :: u17 :: u18 :: u19 :: u20 :: u21 :: u22 :: u23 :: u24 :: u25 :: u26 :: u27 :: u28 :: u29 :: u30 :: u31 :: u32 :: u33 :: u34 ::
   u35 :: u36 :: u37 :: u38 :: (.slice (some ⟨go, 0, none⟩) n n) :: (.int .i64 n) :: x41 :: x42 :: x43 :: x44 :: x45 :: x46 :: x47 :: x48 :: x49 :: u50 :: u51 :: u52 :: u53 :: u54 :: u55 :: u56 :: u57 :: u58 :: u59 :: u60 :: u61 :: u62 :: u63 :: u64 :: u65 :: u66 ::
   []), []⟩ w) :
  (Code.loop (loopBody Tryd.f54 1)).wp Tryd.prog Q ⟨List.toArray (u0 :: u1 :: u2 :: u3 :: u4 :: u5 :: u6 :: u7 :: (.int .i64 0) :: u9 :: u10 :: u11 :: u12 :: u13 :: u14 :: u15 :: u16 :: u17 :: u18 :: u19 :: u20 :: u21 :: u22 :: u23 :: u24 :: u25 :: u26 :: u27 :: u28 :: u29 :: u30 :: u31 :: u32 :: u33 :: u34 :: u35 :: u36 ::
   u37 :: u38 :: (.slice (some ⟨go, 0, none⟩) n n) :: (.int .i64 n) :: (.int .i64 0) :: u42 :: u43 :: u44 :: u45 :: u46 :: u47 :: u48 :: u49 :: u50 :: u51 :: u52 :: u53 :: u54 :: u55 :: u56 :: u57 :: u58 :: u59 :: u60 :: u61 :: u62 :: u63 :: u64 :: u65 :: u66 ::
   []), []⟩ w := by
 conv => arg 2; arg 1; whnf
 go_loop [8, 41] (fun cc ii => ∃ (k c : Nat), ii = .int .i64 (k : Int) ∧ k ≤ n ∧ cc = .int .i64 (c : Int) ∧ c ≤ 60001 ∧ Hid (c = (cl.take k).foldl (fun c x => max c (x + 1)) 0)) (fun _ ii => n - (intOf ii).toNat)
 case atStart => exact ⟨0, 0, rfl, Nat.zero_le _, rfl, by omega, rfl⟩
 case round =>
  obtain ⟨k, c, rfl, hk, rfl, hc, hcc⟩ := hrel
  have hlen : cl.length = n := by simpa using hcl.1
  by_cases hlt : k < n
  ·obtain ⟨x, hx⟩ := get_lt (l := cl) (i := k) (by omega)
   have hc1 := own_cell hcl (map_get (f := encN) hx)
   simp only [encN] at hc1
   have hx6 := hv x (List.mem_of_getElem? hx)
   have hf := hide (foldl_take (fun c x => max c (x + 1)) 0 cl k x hx)
   clear hx hlen
   go_wp2_with fail
   refine ⟨⟨k + 1, max c (x + 1), by simp, by omega, ?_, by omega, ?_⟩, by simp [intOf]; omega⟩
   ·congr 1
    split <;> omega
   ·show _ = _
    rw [hf.out, ← hcc.out]
  ·have hf := hide (foldl_all (fun c x => max c (x + 1)) 0 cl k (by omega))
   clear hlen
   rw [hf.out] at hcc
   go_wp2_with fail
   have := hcc.out
   subst this
   exact hQ _ _ _ _ _ _ _ _ _ _
end Go.Proofs.YtbjdgepfhhafjaaDoor
namespace Go.Proofs.YtbjdgepfhhafjaaDoor
open Go.RowKit
theorem cls_rounds {w0 w : World} {base gM L go cnt : Nat} {d : Int} {vacc vleaf vbr : Value} {ac : List Bool} {lf cl : List Nat} {t : List (List (List Nat))} (hM : MachA w0 base gM L vacc vleaf vbr ac lf t) (hok : MOK L ac lf t) (hL : L ≤ 8) (hn : ac.length ≤ 20000) (hd : d < 0 ∨ (0 : Int) ≤ d)
  (h0 : 0 < ac.length) (hBw : Below w0.heap.size w0 w) (hcl : w.ownsRow w0.heap.size 3 1 (.slice (some ⟨go, 0, none⟩) ac.length ac.length) ac.length (cl.map encN)) (hC : ClsAt L ac.length (mbr t) (macc ac) 0 cl cnt)
  {u2 u3 u4 u6 u7 u9 u10 u12 u13 u14 u15 u16 u17 u18 u19 u20 u21 u22 u23 u24 u25 u26 u27 u28 u29 u30 u31 u32 u33 u34 u35 u36 u37 u38 u39 u40 u41 u42 u43 u44 u45 u46 u47 u48 u49 u50 u51 u52 u53 u54 u55 u56 u57 u58 u59 u60 u61 u62 u63 u64 u65 u66 : Value}
  {Q : Exit → Act → World → Prop} (_ : Reg.NoQ Q)
  (hQ : ∀ (x8 x11 x12 x13 x50 x51 x52 x53 x54 x55 x56 x57 x58 x59 x60 x61 x62 x63 x64 x65 : Value) (w' : World) (go' : Nat) (cl' : List Nat), Below w0.heap.size w0 w' → w'.ownsRow w0.heap.size 3 1 (.slice (some ⟨go', 0, none⟩) ac.length ac.length) ac.length (cl'.map encN) → ClsD L ac.length (mbr t) (macc ac) d cl' →
   Q (.exit 4) ⟨List.toArray ((.pointer (some ⟨gM, 0, none⟩)) :: (.int .i64 d) :: u2 :: u3 :: u4 :: (.slice (some ⟨go', 0, none⟩) ac.length ac.length) :: u6 :: u7 :: x8 :: u9 :: u10 :: x11 :: x12 :: x13 :: u14 :: u15 :: u16 :: u17 :: u18 :: u19 :: u20 :: u21 :: u22 :: u23 :: u24 :: u25 ::
   u26 :: u27 :: u28 :: u29 :: u30 :: u31 :: u32 :: u33 :: u34 :: u35 :: u36 :: u37 :: u38 :: u39 :: u40 :: u41 :: u42 :: u43 :: u44 :: u45 :: u46 :: u47 :: u48 :: u49 :: x50 :: x51 :: x52 :: x53 :: x54 :: x55 :: x56 :: x57 :: x58 :: x59 :: x60 :: x61 :: x62 ::
   x63 :: x64 :: x65 :: u66 :: []), []⟩ w') :
  (Code.loop (loopBody Tryd.f54 2)).wp Tryd.prog Q ⟨List.toArray ((.pointer (some ⟨gM, 0, none⟩)) :: (.int .i64 d) :: u2 :: u3 :: u4 :: (.slice (some ⟨go, 0, none⟩) ac.length ac.length) :: u6 :: u7 :: (.int .i64 cnt) :: u9 :: u10 :: (.int .i64 0) :: u12 :: u13 :: u14 :: u15 :: u16 :: u17 :: u18 :: u19 :: u20 :: u21 :: u22 ::
   u23 :: u24 :: u25 :: u26 :: u27 :: u28 :: u29 :: u30 :: u31 :: u32 :: u33 :: u34 :: u35 :: u36 :: u37 :: u38 :: u39 :: u40 :: u41 :: u42 :: u43 :: u44 :: u45 :: u46 :: u47 :: u48 :: u49 :: u50 :: u51 :: u52 :: u53 :: u54 :: u55 :: u56 :: u57 :: u58 :: u59 ::
   u60 :: u61 :: u62 :: u63 :: u64 :: u65 :: u66 :: []), []⟩ w := by
 conv => arg 2; arg 1; whnf
 go_loopw [5, 8, 11] (fun vv cc rr wr => ∃ (r c g : Nat) (l : List Nat), vv = .slice (some ⟨g, 0, none⟩) ac.length ac.length ∧ cc = .int .i64 (c : Int) ∧ rr = .int .i64 (r : Int) ∧ Below w0.heap.size w0 wr ∧ wr.ownsRow w0.heap.size 3 1 (.slice (some ⟨g, 0, none⟩) ac.length ac.length) ac.length (l.map encN) ∧
  Hid (ClsAt L ac.length (mbr t) (macc ac) r l c) ∧ r + 1 ≤ c ∧ c ≤ ac.length ∧ (d < 0 ∨ (r : Int) ≤ d)) (fun _ cc _ _ => ac.length - (intOf cc).toNat)
 case atStart => exact ⟨0, cnt, go, cl, rfl, rfl, rfl, hBw, hcl, hC, hC.pos h0, hC.le, hd⟩
 case round =>
  obtain ⟨r, c, g, l, rfl, rfl, rfl, hB, hrow, hCC, hr1, hr2, hrd⟩ := hrel
  have hok2 := hide hok
  clear hok hC hcl hd
  by_cases hrr : (r : Int) = d
  ·have hne : ((r : Int) != d) = false := by simp [hrr]
   have hHr := hide hrr
   clear hrr
   go_wp2_with fail
   exact hQ _ _ _ _ _ _ _ _ _ _ _ _ _ _ _ _ _ _ _ _ wr g l hB hrow (hCC.out.atDepth hHr.out)
  ·have hne : ((r : Int) != d) = true := by simp [hrr]
   have hHr := hide hrr
   clear hrr
   have hM' := hM.keep (Kept.of_below hB (fun _ => False)) (fun _ _ _ h => h.elim)
   have hsz := hB.size
   go_wp2_with (go_at_call 74; refine Calls.ret (refine_any hM' hok2.out hrow hL hn) ?_; rintro v w3 ⟨hb3, g3, ms, os, rfl, hrow3, hS3⟩; have hSS := hide hS3; have hb33 := hide hb3; clear hS3 hb3)
   ·have he : ms.length = c := by
     have h1 : ((ms.length : Int) == (c : Int)) = true := by assumption
     have h2 := beq_iff_eq.1 h1
     omega
    have hC' := hCC.out.step hok2.out.isM hn hSS.out
    rw [he] at hC'
    have hb3' : Below w0.heap.size wr w3 := hb33.out.mono hsz
    exact hQ _ _ _ _ _ _ _ _ _ _ _ _ _ _ _ _ _ _ _ _ w3 g l (hB.trans hb3') ((Kept.of_below hb33.out (fun _ => False)).ownsRow hrow (fun _ _ h => h)) (hCC.out.atRest hok2.out.isM hC' hrd)
   ·have he : ms.length ≠ c := by
     have h1 : ((ms.length : Int) == (c : Int)) = false := by assumption
     intro e
     rw [e] at h1
     simp at h1
    have hC' := hCC.out.step hok2.out.isM hn hSS.out
    have hg := hCC.out.grow hC'
    have hle := hC'.le
    have hHr' := hHr.out
    have hb3' : Below w0.heap.size wr w3 := hb33.out.mono hsz
    exact ⟨⟨r + 1, ms.length, g3, os, rfl, rfl, by simp, hB.trans hb3', own_weak hrow3 hsz, hC', by omega, hle, by omega⟩, by simp [intOf]; omega⟩
theorem classes_any {w : World} {base gM L : Nat} {d : Int} {vacc vleaf vbr : Value} {ac : List Bool} {lf : List Nat} {t : List (List (List Nat))} (hM : MachA w base gM L vacc vleaf vbr ac lf t) (hok : MOK L ac lf t) (hL : L ≤ 8) (hn : ac.length ≤ 20000) (h0 : 0 < ac.length) :
  Calls Tryd.prog 54 #[.pointer (some ⟨gM, 0, none⟩), .int .i64 d] w (Ret fun v w' => Below w.heap.size w w' ∧ ∃ (go : Nat) (cl : List Nat), v = .slice (some ⟨go, 0, none⟩) ac.length ac.length ∧
   w'.ownsRow w.heap.size 3 1 (.slice (some ⟨go, 0, none⟩) ac.length ac.length) ac.length (cl.map encN) ∧ ClsD L ac.length (mbr t) (macc ac) d cl) := by
 obtain ⟨go, w1, hmk, hrow, hb1, hgo⟩ := mk_row w ac.length (by omega)
 rw [← fillC_nil] at hrow
 obtain ⟨A, c, rfl⟩ := slice_of_own hM.acc
 have hM1 := hM.keep (Kept.of_below hb1 (fun _ => False)) (fun _ _ _ h => h.elim)
 have hcm := hM1.blk.cell
 go_enter Tryd.func54, Tryd.ntmps54
 go_wp2_with (go_at_call 37; refine (states_any hM hn).mono ?_; rintro e w' ⟨rfl, rfl⟩)
 refine cls_first hM hn hb1 hrow hgo ?_
 iterate 19 (intro _)
 intro w2 hB2 hr2
 have hown := fillC_own hr2 (by simp [cls0]) hgo (by omega)
 have hC0 := hide (ClsAt.zero (L := L) (br := mbr t) h0)
 have hv : ∀ x ∈ cls0 ac, x ≤ 60000 := fun x hx => by
  have h1 := (hC0.out.mem x).1 hx
  have h2 := hC0.out.le
  omega
 clear hmk hcm hr2
 go_wp2_with fail
 refine cls_count hown hn hv ?_
 iterate 10 (intro _)
 go_wp2_with fail
 refine cls_rounds hM hok hL hn (by omega) h0 hB2 hown hC0.out ?_ ?_
 ·repeat (first | exact Reg.NoQ.body (fun _ _ h => h) (fun _ h => h) | refine Reg.NoQ.then ?_ | refine Reg.NoQ.inBlock ?_)
 iterate 20 (intro _)
 intro w3 g3 cl3 hB3 hr3 hC3
 have hCC := hide hC3
 clear hC3
 go_wp2_with fail
 go_ret
 exact ⟨hB3, g3, cl3, rfl, hr3, hCC.out⟩
end Go.Proofs.YtbjdgepfhhafjaaDoor
namespace Go.Proofs.YtbjdgepfhhafjaaDoor
open Go.RowKit
theorem keyI : KeyOK Tryd.prog 3 encN := keyOK_int .i64 Tryd.underlying3 (fun s : Nat => (s : Int)) (fun a b h => by omega)
structure BldI (w : World) (base gb gm : Nat) (c0 c1 c4 c5 c6 : Value) (vl : Value) (l : List Nat) : Prop where
 blk : Blk w gb 106 #[c0, c1, .map (some gm), vl, c4, c5, c6]
 map : IdxMap w gm (l.map encN)
 row : w.ownsRow base 3 1 vl l.length (l.map encN)
theorem meetI_old (w : World) (base gb gm : Nat) (c0 c1 c4 c5 c6 vl : Value) (l : List Nat) (s : Nat) (h : BldI w base gb gm c0 c1 c4 c5 c6 vl l) (hs : s ∈ l) :
  Calls Tryd.prog 75 #[.pointer (some ⟨gb, 0, none⟩), .int .i64 (s : Int)] w fun e w' => e = .returned (.int .i64 (l.idxOf s)) ∧ w = w' := by
 have hc := h.blk.cell
 have hlk := run_idx_lookup keyI Tryd.underlying103 zero3 h.map s
 simp only [hs, if_true, decide_true, encN] at hlk
 go_enter Tryd.func75, Tryd.ntmps75
 go_wp2
 go_ret
 exact ⟨rfl, rfl⟩
theorem meetI_new (w : World) (base gb gm : Nat) (c0 c1 c4 c5 c6 vl : Value) (l : List Nat) (s : Nat) (h : BldI w base gb gm c0 c1 c4 c5 c6 vl l) (hs : s ∉ l) (hlen : l.length < 60000) (hbase : base ≤ w.heap.size) :
  Calls Tryd.prog 75 #[.pointer (some ⟨gb, 0, none⟩), .int .i64 (s : Int)] w (Ret fun v w' => v = .int .i64 (l.length : Int) ∧ ∃ vl', BldI w' base gb gm c0 c1 c4 c5 c6 vl' (l ++ [s]) ∧
   Kept w w' (fun k => k = gb ∨ k = gm ∨ vl.ownBlock = some k) ∧ Moved w vl vl') := by
 have hc := h.blk.cell
 have hlk := run_idx_lookup keyI Tryd.underlying103 zero3 h.map s
 simp only [hs, if_false, decide_false, encN] at hlk
 obtain ⟨wm, hup, hm1, hm2, -⟩ := run_idx_store keyI Tryd.underlying103 h.map s hs
 obtain ⟨A, c, rfl⟩ := slice_of_own h.row
 simp only [encN] at hup
 have hrow : wm.ownsRow base 3 1 (.slice A l.length c) l.length (l.map encN) := h.row.kept hm2 (.inr fun e => own_map_ne h.row h.map e)
 have hblk : Blk wm gb 106 #[c0, c1, .map (some gm), .slice A l.length c, c4, c5, c6] := h.blk.kept (Kept.of_grown hm2) (fun e => blk_map_ne h.blk h.map (Option.some.inj e).symm)
 have hc2 := hblk.cell
 have hsz := hblk.lt
 have hgmne : gm ≠ gb := fun e => blk_map_ne h.blk h.map e.symm
 have hms := hm2.size
 go_enter Tryd.func75, Tryd.ntmps75
 go_wp2_with (at_builtin; refine wpList_app_new row22 rfl _ _ rfl base (.slice A l.length c) l.length _ rfl hrow [.int .i64 (s : Int)] 1 rfl rfl (by simp [Value.oneCell']) (by omega) (by omega) ?_; intro g cap w1 hown hk1 hmv hg; have hblk2 := hblk.kept hk1 (fun e => own_blk_ne hrow hblk (by decide) e); have hc3 := hblk2.cell; have hf3 := hblk2.frozen)
 go_ret
 have hkA : Kept wm (w1.setCell ⟨gb, 3, none⟩ (.slice (some ⟨g, 0, none⟩) (l.length + 1) cap)) (fun k => k = gb ∨ (Value.slice A l.length c).ownBlock = some k) := (hk1.mono (fun _ _ h => .inr h)).setCell (fun _ => .inl rfl) _
 have hkB := (Kept.refl w1 (fun k => k = gb)).setCell (p := ⟨gb, 3, none⟩) (fun _ => rfl) (.slice (some ⟨g, 0, none⟩) (l.length + 1) cap)
 refine ⟨rfl, .slice (some ⟨g, 0, none⟩) (l.length + 1) cap, ⟨hblk2.set_ 3 _, hm1.kept hkA (fun h => h.elim hgmne (own_map_ne hrow hm1)), ?_⟩, ?_, (Moved.refl w _).trans hms hmv⟩
 ·have := hkB.ownsRow hown (fun g' hg' e => own_blk_ne hown hblk2 (by decide) (by rw [← e]; exact hg'))
  simpa [encN] using this
 ·refine ((Kept.of_grown hm2).mono (fun b _ hb => .inr (.inl (Option.some.inj hb).symm))).trans hkA ?_
  rintro b _ (hb | hb)
  ·exact .inl hb
  ·exact .inr (.inr hb)
theorem meetI (w : World) (base gb gm : Nat) (c0 c1 c4 c5 c6 vl : Value) (l : List Nat) (s : Nat) (h : BldI w base gb gm c0 c1 c4 c5 c6 vl l) (hlen : l.length < 60000) (hbase : base ≤ w.heap.size) :
  Calls Tryd.prog 75 #[.pointer (some ⟨gb, 0, none⟩), .int .i64 (s : Int)] w (Ret fun v w' => v = .int .i64 ((meetL l s).idxOf s : Int) ∧ ∃ vl', BldI w' base gb gm c0 c1 c4 c5 c6 vl' (meetL l s) ∧
   Kept w w' (fun k => k = gb ∨ k = gm ∨ vl.ownBlock = some k) ∧ Moved w vl vl') := by
 by_cases hs : s ∈ l
 ·refine Calls.ret_eq (v := .int .i64 ((meetL l s).idxOf s : Int)) ((meetI_old w base gb gm c0 c1 c4 c5 c6 vl l s h hs).mono fun e w' ⟨he, hw⟩ => ?_)
  subst hw
  simp only [meetL, hs, if_true]
  exact ⟨he, by simp, vl, h, Kept.refl _ _, Moved.refl _ _⟩
 ·refine (Calls.ret (meetI_new w base gb gm c0 c1 c4 c5 c6 vl l s h hs hlen hbase) fun v w' hv => ?_)
  simp only [Ret, meetL, hs, if_false]
  have : (l ++ [s]).idxOf s = l.length := by rw [List.idxOf_append, if_neg hs]; simp
  rw [this]
  exact hv
end Go.Proofs.YtbjdgepfhhafjaaDoor
namespace Go.Proofs.YtbjdgepfhhafjaaDoor
open Go.RowKit
theorem BldI.keep {w w' : World} {X : Nat → Prop} {base gb gm : Nat} {c0 c1 c4 c5 c6 vl : Value} {l : List Nat} (h : BldI w base gb gm c0 c1 c4 c5 c6 vl l) (hk : Kept w w' X) (hX : ∀ k, X k → k ≠ gb ∧ k ≠ gm ∧ vl.ownBlock ≠ some k) : BldI w' base gb gm c0 c1 c4 c5 c6 vl l :=
 ⟨h.blk.kept hk fun hx => (hX _ hx).1 rfl, h.map.kept hk fun hx => (hX _ hx).2.1 rfl, hk.ownsRow h.row fun g hg hx => (hX g hx).2.2 hg⟩
theorem BldI.below {w w' : World} {base gb gm : Nat} {c0 c1 c4 c5 c6 vl : Value} {l : List Nat} (h : BldI w base gb gm c0 c1 c4 c5 c6 vl l) (hb : Below w.heap.size w w') : BldI w' base gb gm c0 c1 c4 c5 c6 vl l := h.keep (Kept.of_below hb fun _ => False) fun _ hx => hx.elim
structure ClosI (wb : World) (gb L n : Nat) (k1 k3 k4 : Value) (leaf : Nat → Nat) (br : Nat → Nat → Nat → Nat) (acc : Nat → Bool) : Prop where
 fl : ∀ w', Kept wb w' (fun k => k = gb) → ∀ x : Nat, x < L → Calls Tryd.prog 55 #[.int .i64 x, k3, k1] w' (Ret fun v w'' => v = .int .i64 (leaf x : Int) ∧ Below w'.heap.size w' w'')
 fb : ∀ w', Kept wb w' (fun k => k = gb) → ∀ (x s t : Nat), x < L → s < n → t < n → Calls Tryd.prog 57 #[.int .i64 x, .int .i64 s, .int .i64 t, k3, k1, k4] w' (Ret fun v w'' => v = .int .i64 (br x s t : Int) ∧ Below w'.heap.size w' w'')
 fa : ∀ w', Kept wb w' (fun k => k = gb) → ∀ s : Nat, s < n → Calls Tryd.prog 56 #[.int .i64 s, k1, k4] w' (Ret fun v w'' => v = .bool (acc s) ∧ Below w'.heap.size w' w'')
 pleaf : ∀ x, x < L → leaf x < n
 pbr : ∀ x s t, x < L → s < n → t < n → br x s t < n
structure NB (n : Nat) (l : List Nat) : Prop where
 nd : l.Nodup
 lt : ∀ s ∈ l, s < n
theorem NB.len {n : Nat} {l : List Nat} (h : NB n l) : l.length ≤ n := by
 have := sub_len l (List.range n) h.nd (fun a ha => List.mem_range.2 (h.lt a ha))
 simpa using this
theorem NB.meet {n : Nat} {l : List Nat} (h : NB n l) {s : Nat} (hs : s < n) : NB n (meetL l s) :=
 ⟨nodup_meetL h.nd s, fun a ha => (mem_meetL.1 ha).elim (h.lt a) fun e => e ▸ hs⟩
theorem NB.get {n : Nat} {l : List Nat} (h : NB n l) {i s : Nat} (hi : l[i]? = some s) : s < n := h.lt s (List.mem_of_getElem? hi)
structure OrdS (wb w : World) (gb gm L : Nat) (k1 k3 k4 vl : Value) (l : List Nat) : Prop where
 kept : Kept wb w (fun k => k = gb)
 bld : BldI w wb.heap.size gb gm (.int .i64 L) (.int .i64 0) (.func (.func 55) #[] #[k3, k1]) (.func (.func 57) #[] #[k3, k1, k4]) (.func (.func 56) #[] #[k1, k4]) vl l
 gm_ : wb.heap.size ≤ gm
theorem OrdS.below {wb w w' : World} {gb gm L : Nat} {k1 k3 k4 vl : Value} {l : List Nat} (h : OrdS wb w gb gm L k1 k3 k4 vl l) (hb : Below w.heap.size w w') : OrdS wb w' gb gm L k1 k3 k4 vl l :=
 ⟨h.kept.trans (Kept.of_below hb (fun _ => False)) (fun _ _ hx => hx.elim), h.bld.below hb, h.gm_⟩
theorem OrdS.keep {wb w w' : World} {X : Nat → Prop} {gb gm L : Nat} {k1 k3 k4 vl : Value} {l : List Nat} (h : OrdS wb w gb gm L k1 k3 k4 vl l) (hk : Kept w w' X) (hX : ∀ k, X k → wb.heap.size ≤ k ∧ k ≠ gb ∧ k ≠ gm ∧ vl.ownBlock ≠ some k) : OrdS wb w' gb gm L k1 k3 k4 vl l :=
 ⟨h.kept.trans hk (fun b hb hx => by have := (hX b hx).1; omega), h.bld.keep hk (fun k hx => (hX k hx).2), h.gm_⟩
theorem OrdS.meet {wb w w' : World} {gb gm L : Nat} {k1 k3 k4 vl vl' : Value} {l l' : List Nat} (h : OrdS wb w gb gm L k1 k3 k4 vl l) (hk : Kept w w' (fun k => k = gb ∨ k = gm ∨ vl.ownBlock = some k))
  (hb : BldI w' wb.heap.size gb gm (.int .i64 L) (.int .i64 0) (.func (.func 55) #[] #[k3, k1]) (.func (.func 57) #[] #[k3, k1, k4]) (.func (.func 56) #[] #[k1, k4]) vl' l') : OrdS wb w' gb gm L k1 k3 k4 vl' l' :=
 ⟨h.kept.trans hk (fun b hb hx => by
  rcases hx with hx | hx | hx
  ·exact hx
  ·have := h.gm_; omega
  ·have := own_base h.bld.row hx; omega), hb, h.gm_⟩
theorem OrdS.drew {wb w : World} {gb gm L : Nat} {k1 k3 k4 vl : Value} {l : List Nat} (h : OrdS wb w gb gm L k1 k3 k4 vl l) : OrdS wb w.drew gb gm L k1 k3 k4 vl l := h.below ⟨rfl, rfl, rfl, Nat.le_refl _, fun _ _ => rfl⟩
structure RInv (L : Nat) (leaf : Nat → Nat) (br : Nat → Nat → Nat → Nat) (kn : Nat) (l : List Nat) : Prop where
 rounds : ∃ k, l = roundsL L br k (leafL L leaf)
 le : kn ≤ l.length
 fix : kn = l.length → 0 < kn → roundL L br l = l
theorem RInv.start (L : Nat) (leaf : Nat → Nat) (br : Nat → Nat → Nat → Nat) : RInv L leaf br 0 (leafL L leaf) := ⟨⟨0, rfl⟩, Nat.zero_le _, fun _ h => absurd h (by omega)⟩
theorem prefix_len {l m : List Nat} (h : l <+: m) (he : l.length = m.length) : l = m := h.eq_of_length he
theorem pre_roundL (L : Nat) (br : Nat → Nat → Nat → Nat) (l : List Nat) : l <+: roundL L br l := fold_mem (f := stepA br l) (fun m x => pre_stepA l m x) _ _
theorem RInv.step {L : Nat} {leaf : Nat → Nat} {br : Nat → Nat → Nat → Nat} {kn : Nat} {l : List Nat} (h : RInv L leaf br kn l) : RInv L leaf br l.length (roundL L br l) := by
 obtain ⟨k, hk⟩ := h.rounds
 refine ⟨⟨k + 1, by rw [hk, roundsL_succ']⟩, (pre_roundL L br l).length_le, fun he _ => ?_⟩
 have h1 : roundL L br l = l := (prefix_len (pre_roundL L br l) he).symm
 rw [h1, h1]
theorem RInv.done {L : Nat} {leaf : Nat → Nat} {br : Nat → Nat → Nat → Nat} {l : List Nat} (hL : 0 < L) (h : RInv L leaf br l.length l) : Disc L leaf br l := by
 refine ⟨h.rounds, h.fix rfl ?_⟩
 obtain ⟨k, hk⟩ := h.rounds
 have h1 : leaf 0 ∈ leafL L leaf := leafL_has hL
 have h2 := (roundsL_ok (leaf := leaf) (br := br) k _ (leafL_ok (L := L) (leaf := leaf) (br := br)).1 (leafL_ok (L := L) (leaf := leaf) (br := br)).2).2.2.subset h1
 rw [← hk] at h2
 exact List.length_pos_of_mem h2
end Go.Proofs.YtbjdgepfhhafjaaDoor
namespace Go.Proofs.YtbjdgepfhhafjaaDoor
open Go.RowKit
theorem ord_leaves {wb w : World} {gb gm L n : Nat} {k1 k3 k4 vl : Value} {leaf : Nat → Nat} {br : Nat → Nat → Nat → Nat} {acc : Nat → Bool} (hC : ClosI wb gb L n k1 k3 k4 leaf br acc) (hL : L ≤ 8) (hn : n ≤ 20000)
  (hS : OrdS wb w gb gm L k1 k3 k4 vl [])
  {u1 u2 u3 u4 u5 u6 u7 u8 u9 u10 u11 u12 u13 u14 u15 u16 u17 u18 u19 u20 u21 u22 u23 u26 u27 u28 u29 u30 u31 u32 u33 u34 u35 u36 u37 u38 u39 u40 u41 u42 u43 u44 u45 u46 u47 u48 u49 u50 u51 u52 u53 u54 u55 u56 u57 u58 u59 u60 u61 u62 u63 u64 u65 u66 u67 u68 u69 u70 u71 u72 u73 u74 u75 u76 u77 u78 u79 u80 u81 u82 u83 u84 u85 u86 u87 u88 u89 u90 u91 u92 u93 u94 u95 u96 u97 u98 u99 u100 u101 u102 u103 u104 u105 u106 u107 u108 u109 u110 u111 u112 u113 u114 u115 u116 u117 u118 u119 u120 u121 u122 u123 u124 u125 u126 u127 u128 u129 u130 u131 u132 u133 u134 u135 u136 u137 u138 u139 u140 u141 u142 u143 u144 u145 u146 u147 u148 u149 u150 u151 u152 u153 u154 u155 u156 u157 u158 u159 u160 u161 u162 u163 u164 u165 u166 u167 u168 u169 u170 u171 u172 u173 u174 u175 u176 u177 u178 u179 u180 u181 u182 u183 u184 u185 u186 u187 u188 u189 u190 u191 u192 u193 u194 u195 u196 u197 u198 u199 : Value}
  {Q : Exit → Act → World → Prop}
  (hQ : ∀ (x3 x25 x26 x27 x28 x29 x30 x31 x32 x33 x34 x35 x36 : Value) (w' : World) (vl' : Value), OrdS wb w' gb gm L k1 k3 k4 vl' (leafL L leaf) → NB n (leafL L leaf) →
   Q (.exit 0) ⟨List.toArray ((.pointer (some ⟨gb, 0, none⟩)) :: u1 :: u2 :: x3 :: u4 :: u5 :: u6 :: u7 :: u8 :: u9 :: u10 :: u11 :: u12 :: u13 :: u14 :: u15 :: u16 :: u17 :: u18 :: u19 :: u20 :: u21 :: u22 :: u23 :: (.int .i64 L) :: x25 :: x26 :: x27 :: x28 :: x29 :: x30 :: x31 :: x32 ::
   x33 :: x34 :: x35 :: x36 :: u37 :: u38 :: u39 :: u40 :: u41 :: u42 :: u43 :: u44 :: u45 :: u46 :: u47 :: u48 :: u49 :: u50 :: u51 :: u52 :: u53 :: u54 :: u55 :: u56 :: u57 :: u58 :: u59 :: u60 :: u61 :: u62 :: u63 :: u64 :: u65 :: u66 :: u67 :: u68 :: u69 ::
   u70 :: u71 :: u72 :: u73 :: u74 :: u75 :: u76 :: u77 :: u78 :: u79 :: u80 :: u81 :: u82 :: u83 :: u84 :: u85 :: u86 :: u87 :: u88 :: u89 :: u90 :: u91 :: u92 :: u93 :: u94 :: u95 :: u96 :: u97 :: u98 :: u99 :: u100 :: u101 :: u102 :: u103 :: u104 :: u105 ::
   u106 :: u107 :: u108 :: u109 :: u110 :: u111 :: u112 :: u113 :: u114 :: u115 :: u116 :: u117 :: u118 :: u119 :: u120 :: u121 :: u122 :: u123 :: u124 :: u125 :: u126 :: u127 :: u128 :: u129 :: u130 :: u131 :: u132 :: u133 :: u134 :: u135 :: u136 :: u137 :: u138 ::
   u139 :: u140 :: u141 :: u142 :: u143 :: u144 :: u145 :: u146 :: u147 :: u148 :: u149 :: u150 :: u151 :: u152 :: u153 :: u154 :: u155 :: u156 :: u157 :: u158 :: u159 :: u160 :: u161 :: u162 :: u163 :: u164 :: u165 :: u166 :: u167 :: u168 :: u169 :: u170 :: u171 ::
   u172 :: u173 :: u174 :: u175 :: u176 :: u177 :: u178 :: u179 :: u180 :: u181 :: u182 :: u183 :: u184 :: u185 :: u186 :: u187 :: u188 :: u189 :: u190 :: u191 :: u192 :: u193 :: u194 :: u195 :: u196 :: u197 :: u198 :: u199 :: []), []⟩ w') :
  (Code.loop (loopBody Tryd.f58 0)).wp Tryd.prog Q ⟨List.toArray ((.pointer (some ⟨gb, 0, none⟩)) :: u1 :: u2 :: u3 :: u4 :: u5 :: u6 :: u7 :: u8 :: u9 :: u10 :: u11 :: u12 :: u13 :: u14 :: u15 :: u16 :: u17 :: u18 :: u19 :: u20 :: u21 :: u22 :: u23 :: (.int .i64 L) :: (.int .i64 0) :: u26 :: u27 :: u28 :: u29 :: u30 :: u31 ::
   u32 :: u33 :: u34 :: u35 :: u36 :: u37 :: u38 :: u39 :: u40 :: u41 :: u42 :: u43 :: u44 :: u45 :: u46 :: u47 :: u48 :: u49 :: u50 :: u51 :: u52 :: u53 :: u54 :: u55 :: u56 :: u57 :: u58 :: u59 :: u60 :: u61 :: u62 :: u63 :: u64 :: u65 :: u66 :: u67 :: u68 ::
   u69 :: u70 :: u71 :: u72 :: u73 :: u74 :: u75 :: u76 :: u77 :: u78 :: u79 :: u80 :: u81 :: u82 :: u83 :: u84 :: u85 :: u86 :: u87 :: u88 :: u89 :: u90 :: u91 :: u92 :: u93 :: u94 :: u95 :: u96 :: u97 :: u98 :: u99 :: u100 :: u101 :: u102 :: u103 :: u104 ::
   u105 :: u106 :: u107 :: u108 :: u109 :: u110 :: u111 :: u112 :: u113 :: u114 :: u115 :: u116 :: u117 :: u118 :: u119 :: u120 :: u121 :: u122 :: u123 :: u124 :: u125 :: u126 :: u127 :: u128 :: u129 :: u130 :: u131 :: u132 :: u133 :: u134 :: u135 :: u136 :: u137 ::
   u138 :: u139 :: u140 :: u141 :: u142 :: u143 :: u144 :: u145 :: u146 :: u147 :: u148 :: u149 :: u150 :: u151 :: u152 :: u153 :: u154 :: u155 :: u156 :: u157 :: u158 :: u159 :: u160 :: u161 :: u162 :: u163 :: u164 :: u165 :: u166 :: u167 :: u168 :: u169 :: u170 ::
   u171 :: u172 :: u173 :: u174 :: u175 :: u176 :: u177 :: u178 :: u179 :: u180 :: u181 :: u182 :: u183 :: u184 :: u185 :: u186 :: u187 :: u188 :: u189 :: u190 :: u191 :: u192 :: u193 :: u194 :: u195 :: u196 :: u197 :: u198 :: u199 :: []), []⟩ w := by
 conv => arg 2; arg 1; whnf
 go_loopw [25] (fun xx wr => ∃ (x : Nat) (v : Value) (l : List Nat), xx = .int .i64 (x : Int) ∧ x ≤ L ∧ OrdS wb wr gb gm L k1 k3 k4 v l ∧ Hid (NB n l) ∧ Hid (l = (List.range x).foldl (fun l x => meetL l (leaf x)) [])) (fun xx _ => L - (intOf xx).toNat)
 case atStart => exact ⟨0, vl, [], rfl, Nat.zero_le _, hS, ⟨List.nodup_nil, by simp⟩, rfl⟩
 case round =>
  obtain ⟨x, v, l, rfl, hx, hO, hNB, hl⟩ := hrel
  have hcb := hO.bld.blk.cell
  have hwb := hO.kept.size
  have hlen := hNB.out.len
  by_cases hlt : x < L
  ·go_wp2_with (first
   | (go_at_call 55; refine Calls.ret (hC.fl _ hO.kept x hlt) ?_; rintro u w1 ⟨rfl, hb1⟩; have hB1 := hO.below hb1; have hsz1 := hb1.size)
   | (go_at_call 75; refine Calls.ret (meetI w1 wb.heap.size gb gm _ _ _ _ _ _ l (leaf x) hB1.bld (by omega) (Nat.le_trans hwb hsz1)) ?_; rintro u w2 ⟨rfl, vl2, hBl, hk2, hmv2⟩; have hB2 := hB1.meet hk2 hBl))
   refine ⟨⟨x + 1, vl2, _, by simp, by omega, hB2, hNB.out.meet (hC.pleaf x hlt), ?_⟩, by simp [intOf]; omega⟩
   show _ = _
   rw [List.range_succ, List.foldl_append, ← hl.out]
   rfl
  ·obtain rfl : x = L := by omega
   go_wp2_with fail
   have := hl.out
   subst this
   exact hQ _ _ _ _ _ _ _ _ _ _ _ _ _ wr v hO hNB.out
theorem ord_second {wb w : World} {gb gm L n x i a : Nat} {k1 k3 k4 vl : Value} {leaf : Nat → Nat} {br : Nat → Nat → Nat → Nat} {acc : Nat → Bool} (hC : ClosI wb gb L n k1 k3 k4 leaf br acc) (_ : L ≤ 8) (hn : n ≤ 20000) (hx : x < L)
  {l0 l : List Nat} (hS : OrdS wb w gb gm L k1 k3 k4 vl l) (hN : NB n l) (hp : l0 <+: l) (hi : l0[i]? = some a)
  {u1 u2 u3 u4 u7 u8 u9 u10 u11 u12 u13 u14 u15 u16 u17 u18 u19 u20 u21 u22 u23 u24 u25 u26 u27 u28 u29 u30 u31 u32 u33 u34 u35 u36 u37 u38 u39 u40 u41 u42 u43 u44 u45 u46 u47 u48 u49 u50 u51 u52 u53 u54 u55 u56 u57 u58 u59 u62 u63 u64 u65 u66 u67 u68 u69 u70 u71 u72 u73 u74 u75 u76 u77 u78 u79 u80 u81 u82 u83 u84 u85 u86 u87 u88 u89 u90 u91 u92 u93 u94 u95 u96 u97 u98 u99 u100 u101 u102 u103 u104 u105 u106 u107 u108 u109 u110 u111 u112 u113 u114 u115 u116 u117 u118 u119 u120 u121 u122 u123 u124 u125 u126 u127 u128 u129 u130 u131 u132 u133 u134 u135 u136 u137 u138 u139 u140 u141 u142 u143 u144 u145 u146 u147 u148 u149 u150 u151 u152 u153 u154 u155 u156 u157 u158 u159 u160 u161 u162 u163 u164 u165 u166 u167 u168 u169 u170 u171 u172 u173 u174 u175 u176 u177 u178 u179 u180 u181 u182 u183 u184 u185 u186 u187 u188 u189 u190 u191 u192 u193 u194 u195 u196 u197 u198 u199 : Value}
  {Q : Exit → Act → World → Prop} (hNQ : Reg.NoQ Q)
  (hQ : ∀ (x7 x61 x62 x63 x64 x65 x66 x67 x68 x69 x70 x71 x72 x73 x74 x75 x76 x77 x78 x79 x80 x81 x82 x83 x84 x85 x86 : Value) (w' : World) (vl' : Value), OrdS wb w' gb gm L k1 k3 k4 vl' (stepB br x l0 a l) → NB n (stepB br x l0 a l) →
   Q (.exit 8) ⟨List.toArray ((.pointer (some ⟨gb, 0, none⟩)) :: u1 :: u2 :: u3 :: u4 :: (.int .i64 x) :: (.int .i64 i) :: x7 :: u8 :: u9 :: u10 :: u11 :: u12 :: u13 :: u14 :: u15 :: u16 :: u17 :: u18 :: u19 :: u20 :: u21 :: u22 :: u23 :: u24 :: u25 :: u26 :: u27 :: u28 :: u29 :: u30 ::
   u31 :: u32 :: u33 :: u34 :: u35 :: u36 :: u37 :: u38 :: u39 :: u40 :: u41 :: u42 :: u43 :: u44 :: u45 :: u46 :: u47 :: u48 :: u49 :: u50 :: u51 :: u52 :: u53 :: u54 :: u55 :: u56 :: u57 :: u58 :: u59 :: (.int .i64 l0.length) :: x61 :: x62 :: x63 :: x64 :: x65 ::
   x66 :: x67 :: x68 :: x69 :: x70 :: x71 :: x72 :: x73 :: x74 :: x75 :: x76 :: x77 :: x78 :: x79 :: x80 :: x81 :: x82 :: x83 :: x84 :: x85 :: x86 :: u87 :: u88 :: u89 :: u90 :: u91 :: u92 :: u93 :: u94 :: u95 :: u96 :: u97 :: u98 :: u99 :: u100 :: u101 :: u102 ::
   u103 :: u104 :: u105 :: u106 :: u107 :: u108 :: u109 :: u110 :: u111 :: u112 :: u113 :: u114 :: u115 :: u116 :: u117 :: u118 :: u119 :: u120 :: u121 :: u122 :: u123 :: u124 :: u125 :: u126 :: u127 :: u128 :: u129 :: u130 :: u131 :: u132 :: u133 :: u134 :: u135 ::
   u136 :: u137 :: u138 :: u139 :: u140 :: u141 :: u142 :: u143 :: u144 :: u145 :: u146 :: u147 :: u148 :: u149 :: u150 :: u151 :: u152 :: u153 :: u154 :: u155 :: u156 :: u157 :: u158 :: u159 :: u160 :: u161 :: u162 :: u163 :: u164 :: u165 :: u166 :: u167 :: u168 ::
   u169 :: u170 :: u171 :: u172 :: u173 :: u174 :: u175 :: u176 :: u177 :: u178 :: u179 :: u180 :: u181 :: u182 :: u183 :: u184 :: u185 :: u186 :: u187 :: u188 :: u189 :: u190 :: u191 :: u192 :: u193 :: u194 :: u195 :: u196 :: u197 :: u198 :: u199 :: []), []⟩ w') :
  (Code.loop (loopBody Tryd.f58 4)).wp Tryd.prog Q ⟨List.toArray ((.pointer (some ⟨gb, 0, none⟩)) :: u1 :: u2 :: u3 :: u4 :: (.int .i64 x) :: (.int .i64 i) :: u7 :: u8 :: u9 :: u10 :: u11 :: u12 :: u13 :: u14 :: u15 :: u16 :: u17 :: u18 :: u19 :: u20 :: u21 :: u22 :: u23 :: u24 :: u25 :: u26 :: u27 :: u28 :: u29 :: u30 ::
   u31 :: u32 :: u33 :: u34 :: u35 :: u36 :: u37 :: u38 :: u39 :: u40 :: u41 :: u42 :: u43 :: u44 :: u45 :: u46 :: u47 :: u48 :: u49 :: u50 :: u51 :: u52 :: u53 :: u54 :: u55 :: u56 :: u57 :: u58 :: u59 :: (.int .i64 l0.length) :: (.int .i64 0) :: u62 :: u63 ::
   u64 :: u65 :: u66 :: u67 :: u68 :: u69 :: u70 :: u71 :: u72 :: u73 :: u74 :: u75 :: u76 :: u77 :: u78 :: u79 :: u80 :: u81 :: u82 :: u83 :: u84 :: u85 :: u86 :: u87 :: u88 :: u89 :: u90 :: u91 :: u92 :: u93 :: u94 :: u95 :: u96 :: u97 :: u98 :: u99 :: u100 ::
   u101 :: u102 :: u103 :: u104 :: u105 :: u106 :: u107 :: u108 :: u109 :: u110 :: u111 :: u112 :: u113 :: u114 :: u115 :: u116 :: u117 :: u118 :: u119 :: u120 :: u121 :: u122 :: u123 :: u124 :: u125 :: u126 :: u127 :: u128 :: u129 :: u130 :: u131 :: u132 :: u133 ::
   u134 :: u135 :: u136 :: u137 :: u138 :: u139 :: u140 :: u141 :: u142 :: u143 :: u144 :: u145 :: u146 :: u147 :: u148 :: u149 :: u150 :: u151 :: u152 :: u153 :: u154 :: u155 :: u156 :: u157 :: u158 :: u159 :: u160 :: u161 :: u162 :: u163 :: u164 :: u165 :: u166 ::
   u167 :: u168 :: u169 :: u170 :: u171 :: u172 :: u173 :: u174 :: u175 :: u176 :: u177 :: u178 :: u179 :: u180 :: u181 :: u182 :: u183 :: u184 :: u185 :: u186 :: u187 :: u188 :: u189 :: u190 :: u191 :: u192 :: u193 :: u194 :: u195 :: u196 :: u197 :: u198 :: u199 ::
   []), []⟩ w := by
 conv => arg 2; arg 1; whnf
 have hi' := lt_of_get hi
 have hii := hide hi
 have hpp := hide hp
 have hNN := hide hN
 clear hi hp hN
 go_loopw [61] (fun jj wr => ∃ (j : Nat) (v : Value) (l' : List Nat), jj = .int .i64 (j : Int) ∧ j ≤ l0.length ∧ OrdS wb wr gb gm L k1 k3 k4 v l' ∧ Hid (NB n l') ∧ Hid (l0 <+: l') ∧ Hid (l' = (l0.take j).foldl (fun l b => meetL l (br x a b)) l)) (fun jj _ => l0.length - (intOf jj).toNat)
 case atStart => exact ⟨0, vl, l, rfl, Nat.zero_le _, hS, hNN.out, hpp.out, rfl⟩
 case round =>
  obtain ⟨j, v, l', rfl, hj, hO, hNB, hpre, hl⟩ := hrel
  have hcb := hO.bld.blk.cell
  have hwb := hO.kept.size
  have hlen := hNB.out.len
  have hple := hpre.out.length_le
  by_cases hlt : j < l0.length
  ·obtain ⟨b, hb⟩ := get_lt hlt
   have hga := prefix_get hpre.out hii.out
   have hgb := prefix_get hpre.out hb
   obtain ⟨gv, cv, rfl, hca⟩ := own_get hO.bld.row (map_get (f := encN) hga)
   have hcb2 := own_cell hO.bld.row (map_get (f := encN) hgb)
   simp only [encN] at hca hcb2
   have han := hNB.out.get hga
   have hbn := hNB.out.get hgb
   have hf := hide (foldl_take (fun l b => meetL l (br x a b)) l l0 j b hb)
   clear hb hga hgb
   go_wp2_with fail
   refine Reg.region_plain [0, 0, 2, 6, 14, 0, 0, 64, 192, 448, 0, 1984, 4032, 0, 8192, 24576, 57344, 0, 253952, 516096, 1048574, 2097151] (by kernel_rfl) (by repeat (first | exact hNQ | refine Reg.NoQ.then ?_ | refine Reg.NoQ.inBlock ?_)) ?_
   go_wp2_with (first
   | (go_at_call 57; refine Calls.ret (hC.fb _ hO.drew.kept x a b hx han hbn) ?_; rintro u w1 ⟨rfl, hb1⟩; have hB1 := hO.drew.below hb1; have hsz1 := hb1.size)
   | (go_at_call 75; refine Calls.ret (meetI w1 wb.heap.size gb gm _ _ _ _ _ _ l' (br x a b) hB1.bld (by omega) (Nat.le_trans hwb hsz1)) ?_; rintro u w2 ⟨rfl, vl2, hBl, hk2, hmv2⟩; have hB2 := hB1.meet hk2 hBl))
   refine ⟨⟨j + 1, vl2, _, by simp, by omega, hB2, hNB.out.meet (hC.pbr x a b hx han hbn), hpre.out.trans (prefix_meetL _ _), ?_⟩, by simp [intOf]; omega⟩
   show _ = _
   rw [hf.out, ← hl.out]
  ·have e : j = l0.length := by omega
   have he := hide e
   clear e
   go_wp2_with fail
   have h1 := hl.out
   rw [he.out, List.take_length] at h1
   have h2 : stepB br x l0 a l = l' := h1.symm
   rw [← h2] at hO hNB
   exact hQ _ _ _ _ _ _ _ _ _ _ _ _ _ _ _ _ _ _ _ _ _ _ _ _ _ _ _ wr v hO hNB.out
end Go.Proofs.YtbjdgepfhhafjaaDoor
namespace Go.Proofs.YtbjdgepfhhafjaaDoor
open Go.RowKit
theorem ord_first {wb w : World} {gb gm L n x : Nat} {k1 k3 k4 vl : Value} {leaf : Nat → Nat} {br : Nat → Nat → Nat → Nat} {acc : Nat → Bool} (hC : ClosI wb gb L n k1 k3 k4 leaf br acc) (hL : L ≤ 8) (hn : n ≤ 20000) (hx : x < L)
  {l0 l : List Nat} (hS : OrdS wb w gb gm L k1 k3 k4 vl l) (hN : NB n l) (hp : l0 <+: l)
  {u1 u2 u3 u6 u7 u8 u9 u10 u11 u12 u13 u14 u15 u16 u17 u18 u19 u20 u21 u22 u23 u24 u25 u26 u27 u28 u29 u30 u31 u32 u33 u34 u35 u36 u37 u38 u39 u40 u41 u42 u43 u44 u45 u46 u47 u48 u49 u50 u51 u52 u53 u54 u55 u58 u59 u60 u61 u62 u63 u64 u65 u66 u67 u68 u69 u70 u71 u72 u73 u74 u75 u76 u77 u78 u79 u80 u81 u82 u83 u84 u85 u86 u87 u88 u89 u90 u91 u92 u93 u94 u95 u96 u97 u98 u99 u100 u101 u102 u103 u104 u105 u106 u107 u108 u109 u110 u111 u112 u113 u114 u115 u116 u117 u118 u119 u120 u121 u122 u123 u124 u125 u126 u127 u128 u129 u130 u131 u132 u133 u134 u135 u136 u137 u138 u139 u140 u141 u142 u143 u144 u145 u146 u147 u148 u149 u150 u151 u152 u153 u154 u155 u156 u157 u158 u159 u160 u161 u162 u163 u164 u165 u166 u167 u168 u169 u170 u171 u172 u173 u174 u175 u176 u177 u178 u179 u180 u181 u182 u183 u184 u185 u186 u187 u188 u189 u190 u191 u192 u193 u194 u195 u196 u197 u198 u199 : Value}
  {Q : Exit → Act → World → Prop} (hNQ : Reg.NoQ Q)
  (hQ : ∀ (x6 x7 x57 x58 x59 x60 x61 x62 x63 x64 x65 x66 x67 x68 x69 x70 x71 x72 x73 x74 x75 x76 x77 x78 x79 x80 x81 x82 x83 x84 x85 x86 x87 : Value) (w' : World) (vl' : Value), OrdS wb w' gb gm L k1 k3 k4 vl' (stepA br l0 l x) → NB n (stepA br l0 l x) → l0 <+: stepA br l0 l x →
   Q (.exit 6) ⟨List.toArray ((.pointer (some ⟨gb, 0, none⟩)) :: u1 :: u2 :: u3 :: (.int .i64 l0.length) :: (.int .i64 x) :: x6 :: x7 :: u8 :: u9 :: u10 :: u11 :: u12 :: u13 :: u14 :: u15 :: u16 :: u17 :: u18 :: u19 :: u20 :: u21 :: u22 :: u23 :: u24 :: u25 :: u26 :: u27 :: u28 :: u29 ::
   u30 :: u31 :: u32 :: u33 :: u34 :: u35 :: u36 :: u37 :: u38 :: u39 :: u40 :: u41 :: u42 :: u43 :: u44 :: u45 :: u46 :: u47 :: u48 :: u49 :: u50 :: u51 :: u52 :: u53 :: u54 :: u55 :: (.int .i64 l0.length) :: x57 :: x58 :: x59 :: x60 :: x61 :: x62 :: x63 :: x64 ::
   x65 :: x66 :: x67 :: x68 :: x69 :: x70 :: x71 :: x72 :: x73 :: x74 :: x75 :: x76 :: x77 :: x78 :: x79 :: x80 :: x81 :: x82 :: x83 :: x84 :: x85 :: x86 :: x87 :: u88 :: u89 :: u90 :: u91 :: u92 :: u93 :: u94 :: u95 :: u96 :: u97 :: u98 :: u99 :: u100 :: u101 ::
   u102 :: u103 :: u104 :: u105 :: u106 :: u107 :: u108 :: u109 :: u110 :: u111 :: u112 :: u113 :: u114 :: u115 :: u116 :: u117 :: u118 :: u119 :: u120 :: u121 :: u122 :: u123 :: u124 :: u125 :: u126 :: u127 :: u128 :: u129 :: u130 :: u131 :: u132 :: u133 :: u134 ::
   u135 :: u136 :: u137 :: u138 :: u139 :: u140 :: u141 :: u142 :: u143 :: u144 :: u145 :: u146 :: u147 :: u148 :: u149 :: u150 :: u151 :: u152 :: u153 :: u154 :: u155 :: u156 :: u157 :: u158 :: u159 :: u160 :: u161 :: u162 :: u163 :: u164 :: u165 :: u166 :: u167 ::
   u168 :: u169 :: u170 :: u171 :: u172 :: u173 :: u174 :: u175 :: u176 :: u177 :: u178 :: u179 :: u180 :: u181 :: u182 :: u183 :: u184 :: u185 :: u186 :: u187 :: u188 :: u189 :: u190 :: u191 :: u192 :: u193 :: u194 :: u195 :: u196 :: u197 :: u198 :: u199 :: []), []⟩ w') :
  (Code.loop (loopBody Tryd.f58 3)).wp Tryd.prog Q ⟨List.toArray ((.pointer (some ⟨gb, 0, none⟩)) :: u1 :: u2 :: u3 :: (.int .i64 l0.length) :: (.int .i64 x) :: u6 :: u7 :: u8 :: u9 :: u10 :: u11 :: u12 :: u13 :: u14 :: u15 :: u16 :: u17 :: u18 :: u19 :: u20 :: u21 :: u22 :: u23 :: u24 :: u25 :: u26 :: u27 :: u28 :: u29 ::
   u30 :: u31 :: u32 :: u33 :: u34 :: u35 :: u36 :: u37 :: u38 :: u39 :: u40 :: u41 :: u42 :: u43 :: u44 :: u45 :: u46 :: u47 :: u48 :: u49 :: u50 :: u51 :: u52 :: u53 :: u54 :: u55 :: (.int .i64 l0.length) :: (.int .i64 0) :: u58 :: u59 :: u60 :: u61 :: u62 ::
   u63 :: u64 :: u65 :: u66 :: u67 :: u68 :: u69 :: u70 :: u71 :: u72 :: u73 :: u74 :: u75 :: u76 :: u77 :: u78 :: u79 :: u80 :: u81 :: u82 :: u83 :: u84 :: u85 :: u86 :: u87 :: u88 :: u89 :: u90 :: u91 :: u92 :: u93 :: u94 :: u95 :: u96 :: u97 :: u98 :: u99 ::
   u100 :: u101 :: u102 :: u103 :: u104 :: u105 :: u106 :: u107 :: u108 :: u109 :: u110 :: u111 :: u112 :: u113 :: u114 :: u115 :: u116 :: u117 :: u118 :: u119 :: u120 :: u121 :: u122 :: u123 :: u124 :: u125 :: u126 :: u127 :: u128 :: u129 :: u130 :: u131 :: u132 ::
   u133 :: u134 :: u135 :: u136 :: u137 :: u138 :: u139 :: u140 :: u141 :: u142 :: u143 :: u144 :: u145 :: u146 :: u147 :: u148 :: u149 :: u150 :: u151 :: u152 :: u153 :: u154 :: u155 :: u156 :: u157 :: u158 :: u159 :: u160 :: u161 :: u162 :: u163 :: u164 :: u165 ::
   u166 :: u167 :: u168 :: u169 :: u170 :: u171 :: u172 :: u173 :: u174 :: u175 :: u176 :: u177 :: u178 :: u179 :: u180 :: u181 :: u182 :: u183 :: u184 :: u185 :: u186 :: u187 :: u188 :: u189 :: u190 :: u191 :: u192 :: u193 :: u194 :: u195 :: u196 :: u197 :: u198 ::
   u199 :: []), []⟩ w := by
 conv => arg 2; arg 1; whnf
 have hpp := hide hp
 have hNN := hide hN
 clear hp hN
 go_loopw [57] (fun jj wr => ∃ (i : Nat) (v : Value) (l' : List Nat), jj = .int .i64 (i : Int) ∧ i ≤ l0.length ∧ OrdS wb wr gb gm L k1 k3 k4 v l' ∧ Hid (NB n l') ∧ Hid (l0 <+: l') ∧ Hid (l' = (l0.take i).foldl (fun l a => stepB br x l0 a l) l)) (fun jj _ => l0.length - (intOf jj).toNat)
 case atStart => exact ⟨0, vl, l, rfl, Nat.zero_le _, hS, hNN.out, hpp.out, rfl⟩
 case round =>
  obtain ⟨i, v, l', rfl, hi, hO, hNB, hpre, hl⟩ := hrel
  have hlen := hNB.out.len
  have hple := hpre.out.length_le
  by_cases hlt : i < l0.length
  ·obtain ⟨a, ha⟩ := get_lt hlt
   have hf := hide (foldl_take (fun l a => stepB br x l0 a l) l l0 i a ha)
   have hHa := hide ha
   clear ha
   go_wp2_with fail
   refine ord_second hC hL hn hx hO hNB.out hpre.out hHa.out ?_ ?_
   ·repeat (first | exact hNQ | refine Reg.NoQ.then ?_ | refine Reg.NoQ.inBlock ?_)
   iterate 27 (intro _)
   intro w2 vl2 hO2 hNB2
   have hNB3 := hide hNB2
   clear hNB2
   go_wp2_with fail
   refine ⟨⟨i + 1, vl2, _, by simp, by omega, hO2, hNB3.out, hpre.out.trans (pre_stepB x l0 a l'), ?_⟩, by simp [intOf]; omega⟩
   show _ = _
   rw [hf.out, ← hl.out]
  ·have e : i = l0.length := by omega
   have he := hide e
   clear e
   go_wp2_with fail
   have h1 := hl.out
   rw [he.out, List.take_length] at h1
   have h2 : stepA br l0 l x = l' := h1.symm
   rw [← h2] at hO hNB hpre
   exact hQ _ _ _ _ _ _ _ _ _ _ _ _ _ _ _ _ _ _ _ _ _ _ _ _ _ _ _ _ _ _ _ _ _ wr v hO hNB.out hpre.out
theorem ord_letters {wb w : World} {gb gm L n : Nat} {k1 k3 k4 vl : Value} {leaf : Nat → Nat} {br : Nat → Nat → Nat → Nat} {acc : Nat → Bool} (hC : ClosI wb gb L n k1 k3 k4 leaf br acc) (hL : L ≤ 8) (hn : n ≤ 20000)
  {l0 : List Nat} (hS : OrdS wb w gb gm L k1 k3 k4 vl l0) (hN : NB n l0)
  {u1 u2 u3 u5 u6 u7 u8 u9 u10 u11 u12 u13 u14 u15 u16 u17 u18 u19 u20 u21 u22 u23 u24 u25 u26 u27 u28 u29 u30 u31 u32 u33 u34 u35 u36 u37 u38 u39 u40 u41 u42 u43 u44 u45 u46 u47 u48 u49 u50 u51 u54 u55 u56 u57 u58 u59 u60 u61 u62 u63 u64 u65 u66 u67 u68 u69 u70 u71 u72 u73 u74 u75 u76 u77 u78 u79 u80 u81 u82 u83 u84 u85 u86 u87 u88 u89 u90 u91 u92 u93 u94 u95 u96 u97 u98 u99 u100 u101 u102 u103 u104 u105 u106 u107 u108 u109 u110 u111 u112 u113 u114 u115 u116 u117 u118 u119 u120 u121 u122 u123 u124 u125 u126 u127 u128 u129 u130 u131 u132 u133 u134 u135 u136 u137 u138 u139 u140 u141 u142 u143 u144 u145 u146 u147 u148 u149 u150 u151 u152 u153 u154 u155 u156 u157 u158 u159 u160 u161 u162 u163 u164 u165 u166 u167 u168 u169 u170 u171 u172 u173 u174 u175 u176 u177 u178 u179 u180 u181 u182 u183 u184 u185 u186 u187 u188 u189 u190 u191 u192 u193 u194 u195 u196 u197 u198 u199 : Value}
  {Q : Exit → Act → World → Prop} (hNQ : Reg.NoQ Q)
  (hQ : ∀ (x5 x6 x7 x53 x54 x55 x56 x57 x58 x59 x60 x61 x62 x63 x64 x65 x66 x67 x68 x69 x70 x71 x72 x73 x74 x75 x76 x77 x78 x79 x80 x81 x82 x83 x84 x85 x86 x87 x88 : Value) (w' : World) (vl' : Value), OrdS wb w' gb gm L k1 k3 k4 vl' (roundL L br l0) → NB n (roundL L br l0) →
   Q (.exit 4) ⟨List.toArray ((.pointer (some ⟨gb, 0, none⟩)) :: u1 :: u2 :: u3 :: (.int .i64 l0.length) :: x5 :: x6 :: x7 :: u8 :: u9 :: u10 :: u11 :: u12 :: u13 :: u14 :: u15 :: u16 :: u17 :: u18 :: u19 :: u20 :: u21 :: u22 :: u23 :: u24 :: u25 :: u26 :: u27 :: u28 :: u29 :: u30 :: u31 ::
   u32 :: u33 :: u34 :: u35 :: u36 :: u37 :: u38 :: u39 :: u40 :: u41 :: u42 :: u43 :: u44 :: u45 :: u46 :: u47 :: u48 :: u49 :: u50 :: u51 :: (.int .i64 L) :: x53 :: x54 :: x55 :: x56 :: x57 :: x58 :: x59 :: x60 :: x61 :: x62 :: x63 :: x64 :: x65 :: x66 :: x67 ::
   x68 :: x69 :: x70 :: x71 :: x72 :: x73 :: x74 :: x75 :: x76 :: x77 :: x78 :: x79 :: x80 :: x81 :: x82 :: x83 :: x84 :: x85 :: x86 :: x87 :: x88 :: u89 :: u90 :: u91 :: u92 :: u93 :: u94 :: u95 :: u96 :: u97 :: u98 :: u99 :: u100 :: u101 :: u102 :: u103 :: u104 ::
   u105 :: u106 :: u107 :: u108 :: u109 :: u110 :: u111 :: u112 :: u113 :: u114 :: u115 :: u116 :: u117 :: u118 :: u119 :: u120 :: u121 :: u122 :: u123 :: u124 :: u125 :: u126 :: u127 :: u128 :: u129 :: u130 :: u131 :: u132 :: u133 :: u134 :: u135 :: u136 :: u137 ::
   u138 :: u139 :: u140 :: u141 :: u142 :: u143 :: u144 :: u145 :: u146 :: u147 :: u148 :: u149 :: u150 :: u151 :: u152 :: u153 :: u154 :: u155 :: u156 :: u157 :: u158 :: u159 :: u160 :: u161 :: u162 :: u163 :: u164 :: u165 :: u166 :: u167 :: u168 :: u169 :: u170 ::
   u171 :: u172 :: u173 :: u174 :: u175 :: u176 :: u177 :: u178 :: u179 :: u180 :: u181 :: u182 :: u183 :: u184 :: u185 :: u186 :: u187 :: u188 :: u189 :: u190 :: u191 :: u192 :: u193 :: u194 :: u195 :: u196 :: u197 :: u198 :: u199 :: []), []⟩ w') :
  (Code.loop (loopBody Tryd.f58 2)).wp Tryd.prog Q ⟨List.toArray ((.pointer (some ⟨gb, 0, none⟩)) :: u1 :: u2 :: u3 :: (.int .i64 l0.length) :: u5 :: u6 :: u7 :: u8 :: u9 :: u10 :: u11 :: u12 :: u13 :: u14 :: u15 :: u16 :: u17 :: u18 :: u19 :: u20 :: u21 :: u22 :: u23 :: u24 :: u25 :: u26 :: u27 :: u28 :: u29 :: u30 :: u31 ::
   u32 :: u33 :: u34 :: u35 :: u36 :: u37 :: u38 :: u39 :: u40 :: u41 :: u42 :: u43 :: u44 :: u45 :: u46 :: u47 :: u48 :: u49 :: u50 :: u51 :: (.int .i64 L) :: (.int .i64 0) :: u54 :: u55 :: u56 :: u57 :: u58 :: u59 :: u60 :: u61 :: u62 :: u63 :: u64 :: u65 ::
   u66 :: u67 :: u68 :: u69 :: u70 :: u71 :: u72 :: u73 :: u74 :: u75 :: u76 :: u77 :: u78 :: u79 :: u80 :: u81 :: u82 :: u83 :: u84 :: u85 :: u86 :: u87 :: u88 :: u89 :: u90 :: u91 :: u92 :: u93 :: u94 :: u95 :: u96 :: u97 :: u98 :: u99 :: u100 :: u101 :: u102 ::
   u103 :: u104 :: u105 :: u106 :: u107 :: u108 :: u109 :: u110 :: u111 :: u112 :: u113 :: u114 :: u115 :: u116 :: u117 :: u118 :: u119 :: u120 :: u121 :: u122 :: u123 :: u124 :: u125 :: u126 :: u127 :: u128 :: u129 :: u130 :: u131 :: u132 :: u133 :: u134 :: u135 ::
   u136 :: u137 :: u138 :: u139 :: u140 :: u141 :: u142 :: u143 :: u144 :: u145 :: u146 :: u147 :: u148 :: u149 :: u150 :: u151 :: u152 :: u153 :: u154 :: u155 :: u156 :: u157 :: u158 :: u159 :: u160 :: u161 :: u162 :: u163 :: u164 :: u165 :: u166 :: u167 :: u168 ::
   u169 :: u170 :: u171 :: u172 :: u173 :: u174 :: u175 :: u176 :: u177 :: u178 :: u179 :: u180 :: u181 :: u182 :: u183 :: u184 :: u185 :: u186 :: u187 :: u188 :: u189 :: u190 :: u191 :: u192 :: u193 :: u194 :: u195 :: u196 :: u197 :: u198 :: u199 :: []), []⟩ w := by
 conv => arg 2; arg 1; whnf
 have hNN := hide hN
 clear hN
 go_loopw [53] (fun jj wr => ∃ (x : Nat) (v : Value) (l' : List Nat), jj = .int .i64 (x : Int) ∧ x ≤ L ∧ OrdS wb wr gb gm L k1 k3 k4 v l' ∧ Hid (NB n l') ∧ Hid (l0 <+: l') ∧ Hid (l' = (List.range x).foldl (stepA br l0) l0)) (fun jj _ => L - (intOf jj).toNat)
 case atStart => exact ⟨0, vl, l0, rfl, Nat.zero_le _, hS, hNN.out, List.prefix_refl _, rfl⟩
 case round =>
  obtain ⟨x, v, l', rfl, hx, hO, hNB, hpre, hl⟩ := hrel
  have hlen := hNB.out.len
  have hple := hpre.out.length_le
  by_cases hlt : x < L
  ·go_wp2_with fail
   refine ord_first hC hL hn hlt hO hNB.out hpre.out ?_ ?_
   ·repeat (first | exact hNQ | refine Reg.NoQ.then ?_ | refine Reg.NoQ.inBlock ?_)
   iterate 33 (intro _)
   intro w2 vl2 hO2 hNB2 hpre2
   have hNB3 := hide hNB2
   have hpp3 := hide hpre2
   clear hNB2 hpre2
   go_wp2_with fail
   refine ⟨⟨x + 1, vl2, _, by simp, by omega, hO2, hNB3.out, hpp3.out, ?_⟩, by simp [intOf]; omega⟩
   show _ = _
   rw [List.range_succ, List.foldl_append, ← hl.out]
   rfl
  ·obtain rfl : x = L := by omega
   go_wp2_with fail
   have h2 : roundL x br l0 = l' := hl.out.symm
   rw [← h2] at hO hNB
   exact hQ _ _ _ _ _ _ _ _ _ _ _ _ _ _ _ _ _ _ _ _ _ _ _ _ _ _ _ _ _ _ _ _ _ _ _ _ _ _ _ wr v hO hNB.out
theorem ord_rounds {wb w : World} {gb gm L n : Nat} {k1 k3 k4 vl : Value} {leaf : Nat → Nat} {br : Nat → Nat → Nat → Nat} {acc : Nat → Bool} (hC : ClosI wb gb L n k1 k3 k4 leaf br acc) (hL0 : 0 < L) (hL : L ≤ 8) (hn : n ≤ 20000)
  (hS : OrdS wb w gb gm L k1 k3 k4 vl (leafL L leaf)) (hN : NB n (leafL L leaf))
  {u1 u2 u3 u5 u6 u7 u8 u9 u10 u11 u12 u13 u14 u15 u16 u17 u18 u19 u20 u21 u22 u23 u24 u25 u26 u27 u28 u29 u30 u31 u32 u33 u34 u35 u36 u37 u38 u39 u40 u41 u42 u43 u44 u45 u46 u47 u48 u49 u50 u51 u52 u53 u54 u55 u56 u57 u58 u59 u60 u61 u62 u63 u64 u65 u66 u67 u68 u69 u70 u71 u72 u73 u74 u75 u76 u77 u78 u79 u80 u81 u82 u83 u84 u85 u86 u87 u88 u89 u90 u91 u92 u93 u94 u95 u96 u97 u98 u99 u100 u101 u102 u103 u104 u105 u106 u107 u108 u109 u110 u111 u112 u113 u114 u115 u116 u117 u118 u119 u120 u121 u122 u123 u124 u125 u126 u127 u128 u129 u130 u131 u132 u133 u134 u135 u136 u137 u138 u139 u140 u141 u142 u143 u144 u145 u146 u147 u148 u149 u150 u151 u152 u153 u154 u155 u156 u157 u158 u159 u160 u161 u162 u163 u164 u165 u166 u167 u168 u169 u170 u171 u172 u173 u174 u175 u176 u177 u178 u179 u180 u181 u182 u183 u184 u185 u186 u187 u188 u189 u190 u191 u192 u193 u194 u195 u196 u197 u198 u199 : Value}
  {Q : Exit → Act → World → Prop} (hNQ : Reg.NoQ Q)
  (hQ : ∀ (x4 x5 x6 x7 x37 x38 x39 x40 x41 x42 x43 x44 x45 x46 x47 x48 x49 x50 x51 x52 x53 x54 x55 x56 x57 x58 x59 x60 x61 x62 x63 x64 x65 x66 x67 x68 x69 x70 x71 x72 x73 x74 x75 x76 x77 x78 x79 x80 x81 x82 x83 x84 x85 x86 x87 x88 : Value) (w' : World) (vl' : Value) (l : List Nat), OrdS wb w' gb gm L k1 k3 k4 vl' l → NB n l → Disc L leaf br l →
   Q (.exit 2) ⟨List.toArray ((.pointer (some ⟨gb, 0, none⟩)) :: u1 :: u2 :: u3 :: x4 :: x5 :: x6 :: x7 :: u8 :: u9 :: u10 :: u11 :: u12 :: u13 :: u14 :: u15 :: u16 :: u17 :: u18 :: u19 :: u20 :: u21 :: u22 :: u23 :: u24 :: u25 :: u26 :: u27 :: u28 :: u29 :: u30 :: u31 :: u32 :: u33 :: u34 ::
   u35 :: u36 :: x37 :: x38 :: x39 :: x40 :: x41 :: x42 :: x43 :: x44 :: x45 :: x46 :: x47 :: x48 :: x49 :: x50 :: x51 :: x52 :: x53 :: x54 :: x55 :: x56 :: x57 :: x58 :: x59 :: x60 :: x61 :: x62 :: x63 :: x64 :: x65 :: x66 :: x67 :: x68 :: x69 :: x70 :: x71 ::
   x72 :: x73 :: x74 :: x75 :: x76 :: x77 :: x78 :: x79 :: x80 :: x81 :: x82 :: x83 :: x84 :: x85 :: x86 :: x87 :: x88 :: u89 :: u90 :: u91 :: u92 :: u93 :: u94 :: u95 :: u96 :: u97 :: u98 :: u99 :: u100 :: u101 :: u102 :: u103 :: u104 :: u105 :: u106 :: u107 ::
   u108 :: u109 :: u110 :: u111 :: u112 :: u113 :: u114 :: u115 :: u116 :: u117 :: u118 :: u119 :: u120 :: u121 :: u122 :: u123 :: u124 :: u125 :: u126 :: u127 :: u128 :: u129 :: u130 :: u131 :: u132 :: u133 :: u134 :: u135 :: u136 :: u137 :: u138 :: u139 :: u140 ::
   u141 :: u142 :: u143 :: u144 :: u145 :: u146 :: u147 :: u148 :: u149 :: u150 :: u151 :: u152 :: u153 :: u154 :: u155 :: u156 :: u157 :: u158 :: u159 :: u160 :: u161 :: u162 :: u163 :: u164 :: u165 :: u166 :: u167 :: u168 :: u169 :: u170 :: u171 :: u172 :: u173 ::
   u174 :: u175 :: u176 :: u177 :: u178 :: u179 :: u180 :: u181 :: u182 :: u183 :: u184 :: u185 :: u186 :: u187 :: u188 :: u189 :: u190 :: u191 :: u192 :: u193 :: u194 :: u195 :: u196 :: u197 :: u198 :: u199 :: []), []⟩ w') :
  (Code.loop (loopBody Tryd.f58 1)).wp Tryd.prog Q ⟨List.toArray ((.pointer (some ⟨gb, 0, none⟩)) :: u1 :: u2 :: u3 :: (.int .i64 0) :: u5 :: u6 :: u7 :: u8 :: u9 :: u10 :: u11 :: u12 :: u13 :: u14 :: u15 :: u16 :: u17 :: u18 :: u19 :: u20 :: u21 :: u22 :: u23 :: u24 :: u25 :: u26 :: u27 :: u28 :: u29 :: u30 :: u31 :: u32 ::
   u33 :: u34 :: u35 :: u36 :: u37 :: u38 :: u39 :: u40 :: u41 :: u42 :: u43 :: u44 :: u45 :: u46 :: u47 :: u48 :: u49 :: u50 :: u51 :: u52 :: u53 :: u54 :: u55 :: u56 :: u57 :: u58 :: u59 :: u60 :: u61 :: u62 :: u63 :: u64 :: u65 :: u66 :: u67 :: u68 :: u69 ::
   u70 :: u71 :: u72 :: u73 :: u74 :: u75 :: u76 :: u77 :: u78 :: u79 :: u80 :: u81 :: u82 :: u83 :: u84 :: u85 :: u86 :: u87 :: u88 :: u89 :: u90 :: u91 :: u92 :: u93 :: u94 :: u95 :: u96 :: u97 :: u98 :: u99 :: u100 :: u101 :: u102 :: u103 :: u104 :: u105 ::
   u106 :: u107 :: u108 :: u109 :: u110 :: u111 :: u112 :: u113 :: u114 :: u115 :: u116 :: u117 :: u118 :: u119 :: u120 :: u121 :: u122 :: u123 :: u124 :: u125 :: u126 :: u127 :: u128 :: u129 :: u130 :: u131 :: u132 :: u133 :: u134 :: u135 :: u136 :: u137 :: u138 ::
   u139 :: u140 :: u141 :: u142 :: u143 :: u144 :: u145 :: u146 :: u147 :: u148 :: u149 :: u150 :: u151 :: u152 :: u153 :: u154 :: u155 :: u156 :: u157 :: u158 :: u159 :: u160 :: u161 :: u162 :: u163 :: u164 :: u165 :: u166 :: u167 :: u168 :: u169 :: u170 :: u171 ::
   u172 :: u173 :: u174 :: u175 :: u176 :: u177 :: u178 :: u179 :: u180 :: u181 :: u182 :: u183 :: u184 :: u185 :: u186 :: u187 :: u188 :: u189 :: u190 :: u191 :: u192 :: u193 :: u194 :: u195 :: u196 :: u197 :: u198 :: u199 :: []), []⟩ w := by
 conv => arg 2; arg 1; whnf
 have hNN := hide hN
 clear hN
 go_loopw [4] (fun jj wr => ∃ (kn : Nat) (v : Value) (l : List Nat), jj = .int .i64 (kn : Int) ∧ OrdS wb wr gb gm L k1 k3 k4 v l ∧ Hid (NB n l) ∧ Hid (RInv L leaf br kn l)) (fun jj _ => 20001 - (intOf jj).toNat)
 case atStart => exact ⟨0, vl, _, rfl, hS, hNN.out, RInv.start L leaf br⟩
 case round =>
  obtain ⟨kn, v, l, rfl, hO, hNB, hR⟩ := hrel
  have hlen := hNB.out.len
  have hle := hR.out.le
  have hcb := hO.bld.blk.cell
  obtain ⟨A, c, rfl⟩ := slice_of_own hO.bld.row
  by_cases heq : kn = l.length
  ·have hne : ((kn : Int) != (l.length : Int)) = false := by simp [heq]
   have hd := hide heq
   clear heq
   go_wp2_with fail
   have h1 := hd.out
   subst h1
   exact hQ _ _ _ _ _ _ _ _ _ _ _ _ _ _ _ _ _ _ _ _ _ _ _ _ _ _ _ _ _ _ _ _ _ _ _ _ _ _ _ _ _ _ _ _ _ _ _ _ _ _ _ _ _ _ _ _ wr _ l hO hNB.out (hR.out.done hL0)
  ·have hne : ((kn : Int) != (l.length : Int)) = true := by simp; omega
   have hd := hide heq
   clear heq
   go_wp2_with fail
   refine ord_letters hC hL hn hO hNB.out ?_ ?_
   ·repeat (first | exact hNQ | refine Reg.NoQ.then ?_ | refine Reg.NoQ.inBlock ?_)
   iterate 39 (intro _)
   intro w2 vl2 hO2 hNB2
   have hNB3 := hide hNB2
   clear hNB2
   go_wp2_with fail
   have hd2 := hd.out
   exact ⟨⟨l.length, vl2, _, by simp, hO2, hNB3.out, hR.out.step⟩, by simp [intOf]; omega⟩
end Go.Proofs.YtbjdgepfhhafjaaDoor
