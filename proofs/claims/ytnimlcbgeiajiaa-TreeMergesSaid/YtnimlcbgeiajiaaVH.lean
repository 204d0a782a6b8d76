/-
  Exploring in rounds that pass over pairs that are known: what is found; the table of what was found: plain Lean.
  The reference's classes: representatives, and when the number of classes stands still: plain Lean.
  The reference's classes: the loops of a round.
  The reference's classes: the first marks, the rounds, and the walk joined.
  The reference's classes: the walk joined.
  The reference's canonical automaton: numbers of classes in the order in which they are found: plain Lean.
  The reference's canonical: the numbers begin; the classes of the leaves.
  The reference's canonical: the rounds that find the classes.
  The reference's canonical: the outer loops of the rounds.
  The reference's canonical: the automaton is written: the inner loops.
  The reference's canonical: the automaton is written: the outer loops.
  The reference's canonical: the walk joined.
-/
import Derived.Test.YtnimlcbgeiajiaaQD
import Derived.Test.YtnimlcbgeiajiaaVG

namespace Go.Proofs.Ytnimlcbgeiajiaa

section
variable {S : Type} {L : Nat} {leaf : Nat → S} {br : Nat → S → S → S}
/-- Between two rounds: the pairs below d are known. -/
structure Expl (L : Nat) (leaf : Nat → S) (br : Nat → S → S → S) (l : List S) (d : Nat) : Prop where
  nodup : l.Nodup
  reach : ∀ s ∈ l, Reach L leaf br s
  leaves : ∀ x, x < L → leaf x ∈ l
  le : d ≤ l.length
  cl : ∀ x i k s u, x < L → i < d → k < d → l[i]? = some s → l[k]? = some u → br x s u ∈ l
/-- In a round over l0: what D tells is known. -/
structure ExpM (L : Nat) (leaf : Nat → S) (br : Nat → S → S → S) (l0 l : List S) (d : Nat) (D : Nat → Nat → Nat → Prop) : Prop where
  nodup : l.Nodup
  reach : ∀ s ∈ l, Reach L leaf br s
  leaves : ∀ x, x < L → leaf x ∈ l
  pre : l0 <+: l
  le : d ≤ l0.length
  cl : ∀ x i k s u, x < L → (i < d ∧ k < d ∨ D x i k) → l0[i]? = some s → l0[k]? = some u → br x s u ∈ l
theorem Expl.start {l : List S} {d : Nat} (h : Expl L leaf br l d) : ExpM L leaf br l l d (fun _ _ _ => False) :=
  ⟨h.nodup, h.reach, h.leaves, List.prefix_refl _, h.le, fun x i k s u hx hd hi hk => (hd.elim (fun h1 => h.cl x i k s u hx h1.1 h1.2 hi hk) (fun h => h.elim))⟩
theorem ExpM.imp {l0 l : List S} {d : Nat} {D D' : Nat → Nat → Nat → Prop} (h : ExpM L leaf br l0 l d D) (hD : ∀ x i k, x < L → i < l0.length → k < l0.length → D' x i k → i < d ∧ k < d ∨ D x i k) : ExpM L leaf br l0 l d D' :=
  ⟨h.nodup, h.reach, h.leaves, h.pre, h.le, fun x i k s u hx hd hi hk => h.cl x i k s u hx (hd.elim .inl fun hd => hD x i k hx (lt_of_get hi) (lt_of_get hk) hd) hi hk⟩
variable [DecidableEq S]
theorem ExpM.meet {l0 l : List S} {d : Nat} {D D' : Nat → Nat → Nat → Prop} (h : ExpM L leaf br l0 l d D) {x i k : Nat} {s u : S} (hx : x < L) (hi : l0[i]? = some s) (hk : l0[k]? = some u)
    (hD : ∀ x' i' k', x' < L → i' < l0.length → k' < l0.length → D' x' i' k' → D x' i' k' ∨ x' = x ∧ i' = i ∧ k' = k) : ExpM L leaf br l0 (meetL l (br x s u)) d D' := by
  have hs : s ∈ l := h.pre.subset (List.mem_of_getElem? hi)
  have hu : u ∈ l := h.pre.subset (List.mem_of_getElem? hk)
  refine ⟨nodup_meetL h.nodup _, fun v hv => ?_, fun y hy => mem_meetL.2 (.inl (h.leaves y hy)), h.pre.trans (prefix_meetL _ _), h.le, fun x' i' k' s' u' hx' hd hi' hk' => ?_⟩
  · rcases mem_meetL.1 hv with hv | rfl
    · exact h.reach v hv
    · exact .br x s u hx (h.reach s hs) (h.reach u hu)
  · rcases hd with hd | hd
    · exact mem_meetL.2 (.inl (h.cl x' i' k' s' u' hx' (.inl hd) hi' hk'))
    · rcases hD x' i' k' hx' (lt_of_get hi') (lt_of_get hk') hd with hd | ⟨rfl, rfl, rfl⟩
      · exact mem_meetL.2 (.inl (h.cl x' i' k' s' u' hx' (.inr hd) hi' hk'))
      · rw [hi] at hi'; rw [hk] at hk'
        injection hi' with hi'; injection hk' with hk'
        subst hi' hk'
        exact mem_meetL.2 (.inr rfl)
omit [DecidableEq S] in
theorem ExpM.finish {l0 l : List S} {d : Nat} {D : Nat → Nat → Nat → Prop} (h : ExpM L leaf br l0 l d D) (hD : ∀ x i k, x < L → i < l0.length → k < l0.length → D x i k) : Expl L leaf br l l0.length := by
  refine ⟨h.nodup, h.reach, h.leaves, h.pre.length_le, fun x i k s u hx hi hk hs hu => ?_⟩
  obtain ⟨t, rfl⟩ := h.pre
  rw [List.getElem?_append_left hi] at hs
  rw [List.getElem?_append_left hk] at hu
  exact h.cl x i k s u hx (.inr (hD x i k hx hi hk)) hs hu
omit [DecidableEq S] in
/-- Nothing new: all is found. -/
theorem Expl.all {l : List S} (h : Expl L leaf br l l.length) (s : S) : s ∈ l ↔ Reach L leaf br s := by
  constructor
  · exact h.reach s
  · intro hs
    induction hs with
    | leaf x hx => exact h.leaves x hx
    | br x a b hx _ _ iha ihb =>
      obtain ⟨i, hi⟩ := List.mem_iff_getElem?.1 iha
      obtain ⟨k, hk⟩ := List.mem_iff_getElem?.1 ihb
      exact h.cl x i k a b hx (lt_of_get hi) (lt_of_get hk) hi hk
/-- The leaves alone. -/
theorem Expl.first {l : List S} (h : l = (List.range L).foldl (fun l x => meetL l (leaf x)) []) : Expl L leaf br l 0 := by
  have e : l = leafL L leaf := h
  subst e
  exact ⟨(leafL_ok (br := br)).1, leafL_ok.2, fun x hx => leafL_has hx, Nat.zero_le _, fun x i k s u _ hi => absurd hi (by omega)⟩

/-! ## the table -/
def tabLf (leaf : Nat → S) (l : List S) (x : Nat) : Nat := numL l (leaf x)
def tabBr (br : Nat → S → S → S) (l : List S) (x i k : Nat) : Nat := match l[i]?, l[k]? with
  | some s, some u => numL l (br x s u)
  | _, _ => 0
theorem tabBr_eq {l : List S} {x i k : Nat} {s u : S} (hi : l[i]? = some s) (hk : l[k]? = some u) : tabBr br l x i k = numL l (br x s u) := by simp [tabBr, hi, hk]
theorem num_get {l : List S} {s : S} (h : s ∈ l) : l[numL l s]? = some s := by
  unfold numL
  rw [List.getElem?_eq_getElem (List.idxOf_lt_length_of_mem h), List.getElem_idxOf]
/-- Lists that are a machine given by numbers. -/
def mkLf (L : Nat) (lf : Nat → Nat) : List Nat := (List.range L).map lf
def mkTab (L n : Nat) (br : Nat → Nat → Nat → Nat) : List (List (List Nat)) := (List.range n).map fun i => (List.range n).map fun k => (List.range L).map fun x => br x i k
omit [DecidableEq S] in
theorem mkLf_get {L x : Nat} {lf : Nat → Nat} (h : x < L) : mleaf (mkLf L lf) x = lf x := by
  unfold mleaf mkLf
  exact getD_some (by simp [h])
omit [DecidableEq S] in
theorem mkTab_get {L n x i k : Nat} {br : Nat → Nat → Nat → Nat} (hx : x < L) (hi : i < n) (hk : k < n) : mbr (mkTab L n br) x i k = br x i k := by
  have e1 : (mkTab L n br).getD i [] = (List.range n).map fun k => (List.range L).map fun x => br x i k := getD_some (by simp [mkTab, hi])
  have e2 : ((List.range n).map fun k => (List.range L).map fun x => br x i k).getD k [] = (List.range L).map fun x => br x i k := getD_some (by simp [hk])
  unfold mbr
  rw [e1, e2]
  exact getD_some (by simp [hx])
/-- What was found is a machine that runs as the states do. -/
theorem Expl.machine {l : List S} {acc : S → Bool} (h : Expl L leaf br l l.length) :
    MOK L (l.map acc) (mkLf L (tabLf leaf l)) (mkTab L l.length (tabBr br l)) ∧
    (∀ tr : Tr, tr.ok L → l[runT (mleaf (mkLf L (tabLf leaf l))) (mbr (mkTab L l.length (tabBr br l))) tr]? = some (runT leaf br tr)) ∧
    ∀ tr : Tr, tr.ok L → macc (l.map acc) (runT (mleaf (mkLf L (tabLf leaf l))) (mbr (mkTab L l.length (tabBr br l))) tr) = acc (runT leaf br tr) := by
  have hx : ∀ x, x < L → l[mleaf (mkLf L (tabLf leaf l)) x]? = some (leaf x) := fun x hx => by
    rw [mkLf_get hx]
    exact num_get (h.leaves x hx)
  have hb : ∀ x i j s u, x < L → l[i]? = some s → l[j]? = some u → l[mbr (mkTab L l.length (tabBr br l)) x i j]? = some (br x s u) := fun x i j s u hx hi hj => by
    rw [mkTab_get hx (lt_of_get hi) (lt_of_get hj), tabBr_eq hi hj]
    exact num_get (h.cl x i j s u hx (lt_of_get hi) (lt_of_get hj) hi hj)
  have hrun : ∀ tr : Tr, tr.ok L → l[runT (mleaf (mkLf L (tabLf leaf l))) (mbr (mkTab L l.length (tabBr br l))) tr]? = some (runT leaf br tr) := by
    intro tr
    induction tr with
    | leaf x => exact fun h => hx x h
    | node x s u ihs ihu => exact fun h => hb x _ _ _ _ h.1 (ihs h.2.1) (ihu h.2.2)
  refine ⟨⟨by simp [mkLf], by simp [mkTab], fun i r hr => ?_, ⟨fun x hx' => ?_, fun x p q hx' hp hq => ?_, fun q hq => ?_⟩⟩, hrun, fun tr h => ?_⟩
  · simp only [mkTab, List.getElem?_map, Option.map_eq_some_iff] at hr
    obtain ⟨i', -, rfl⟩ := hr
    refine ⟨by simp, fun j row hrow => ?_⟩
    simp only [List.getElem?_map, Option.map_eq_some_iff] at hrow
    obtain ⟨j', -, rfl⟩ := hrow
    simp
  · have := lt_of_get (hx x hx')
    simpa using this
  · obtain ⟨s, hs⟩ := get_lt (l := l) (i := p) (by simpa using hp)
    obtain ⟨u, hu⟩ := get_lt (l := l) (i := q) (by simpa using hq)
    have := lt_of_get (hb x p q s u hx' hs hu)
    simpa using this
  · obtain ⟨s, hs⟩ := get_lt (l := l) (i := q) (by simpa using hq)
    obtain ⟨tr, h1, h2⟩ := reach_run.1 (h.reach s (List.mem_of_getElem? hs))
    have h3 := hrun tr h1
    rw [h2] at h3
    have : runT (mleaf (mkLf L (tabLf leaf l))) (mbr (mkTab L l.length (tabBr br l))) tr = q := (List.getElem?_inj (lt_of_get h3) h.nodup).1 (h3.trans hs.symm)
    exact reach_run.2 ⟨tr, h1, this⟩
  · unfold macc
    exact getD_some (map_get (hrun tr h))
end
end Go.Proofs.Ytnimlcbgeiajiaa

namespace Go.Proofs.Ytnimlcbgeiajiaa
open Go.RowKit

/-- The first i states have been given the numbers nx; F has the first state of each number. -/
structure RepS (E : Nat → Nat → Prop) (i : Nat) (F nx : List Nat) : Prop where
  len : nx.length = i
  at_ : ∀ j v, nx[j]? = some v → ∃ f, F[v]? = some f ∧ E f j
  sep : ∀ (p q f g : Nat), p < q → F[p]? = some f → F[q]? = some g → ¬ E f g
  src : ∀ (p f : Nat), F[p]? = some f → f < i ∧ nx[f]? = some p
theorem RepS.start (E : Nat → Nat → Prop) : RepS E 0 [] [] := ⟨rfl, fun j v h => by simp at h, fun p q f g _ h => by simp at h, fun p f h => by simp at h⟩
theorem RepS.le {E : Nat → Nat → Prop} {i : Nat} {F nx : List Nat} (h : RepS E i F nx) : F.length ≤ i := by
  have hnd : F.Nodup := by
    refine List.pairwise_iff_getElem.2 fun p q hp hq hpq e => ?_
    have h1 := (h.src q _ (List.getElem?_eq_getElem hq)).2
    have h2 := (h.src p _ (List.getElem?_eq_getElem hp)).2
    rw [e, h1] at h2
    have := Option.some.inj h2
    omega
  have := sub_len F (List.range i) hnd (fun a ha => by
    obtain ⟨p, hp⟩ := List.mem_iff_getElem?.1 ha
    exact List.mem_range.2 (h.src p a hp).1)
  simpa using this
theorem snoc_get {D : Type} {l : List D} {x y : D} {j : Nat} (h : (l ++ [x])[j]? = some y) : l[j]? = some y ∨ j = l.length ∧ y = x := by
  by_cases hj : j < l.length
  · rw [List.getElem?_append_left hj] at h
    exact .inl h
  · have h1 := lt_of_get h
    simp at h1
    obtain rfl : j = l.length := by omega
    simp at h
    exact .inr ⟨rfl, h.symm⟩
theorem snoc_old {D : Type} {l : List D} {x y : D} {j : Nat} (h : l[j]? = some y) : (l ++ [x])[j]? = some y := by
  rw [List.getElem?_append_left (lt_of_get h)]
  exact h
theorem snoc_new {D : Type} (l : List D) (x : D) : (l ++ [x])[l.length]? = some x := by simp
/-- The state i is like the one of number k. -/
theorem RepS.old {E : Nat → Nat → Prop} {i k f : Nat} {F nx : List Nat} (h : RepS E i F nx) (hk : F[k]? = some f) (hE : E f i) : RepS E (i + 1) F (nx ++ [k]) := by
  refine ⟨by simp [h.len], fun j v hj => ?_, h.sep, fun p g hp => ?_⟩
  · rcases snoc_get hj with hj | ⟨rfl, rfl⟩
    · exact h.at_ j v hj
    · rw [h.len]; exact ⟨f, hk, hE⟩
  · obtain ⟨h1, h2⟩ := h.src p g hp
    exact ⟨by omega, snoc_old h2⟩
/-- The state i is like none. -/
theorem RepS.new {E : Nat → Nat → Prop} {i : Nat} {F nx : List Nat} (h : RepS E i F nx) (hE : E i i) (hn : ∀ (p f : Nat), F[p]? = some f → ¬ E f i) : RepS E (i + 1) (F ++ [i]) (nx ++ [F.length]) := by
  refine ⟨by simp [h.len], fun j v hj => ?_, fun p q f g hpq hp hq => ?_, fun p g hp => ?_⟩
  · rcases snoc_get hj with hj | ⟨rfl, rfl⟩
    · obtain ⟨f, h1, h2⟩ := h.at_ j v hj
      exact ⟨f, snoc_old h1, h2⟩
    · rw [h.len]; exact ⟨i, snoc_new _ _, hE⟩
  · rcases snoc_get hq with hq1 | ⟨e1, e2⟩
    · rcases snoc_get hp with hp1 | ⟨e3, e4⟩
      · exact h.sep p q f g hpq hp1 hq1
      · have := lt_of_get hq1; omega
    · rcases snoc_get hp with hp1 | ⟨e3, e4⟩
      · rw [e2]; exact hn p f hp1
      · omega
  · rcases snoc_get hp with hp | ⟨rfl, rfl⟩
    · obtain ⟨h1, h2⟩ := h.src p g hp
      exact ⟨by omega, snoc_old h2⟩
    · refine ⟨by omega, ?_⟩
      rw [← h.len]; exact snoc_new _ _

section
variable {L n r : Nat} {br : Nat → Nat → Nat → Nat} {acc : Nat → Bool} {cl nx F : List Nat} {leaf : Nat → Nat}
/-- Classes, however they are numbered. -/
structure ClsI (L n : Nat) (br : Nat → Nat → Nat → Nat) (acc : Nat → Bool) (r : Nat) (cl : List Nat) : Prop where
  len : cl.length = n
  iff : ∀ i j, i < n → j < n → (cl.getD i 0 = cl.getD j 0 ↔ EqS L n br acc r i j)
theorem ClsI.alike (h : ClsI L n br acc r cl) (hbr : ∀ x i k, x < L → i < n → k < n → br x i k < n) {a b : Nat} (ha : a < n) (hb : b < n) : Alike L n br cl a b ↔ EqS L n br acc (r + 1) a b := by
  unfold Alike AlikeX clN'
  show _ ↔ EqS L n br acc r a b ∧ _
  rw [h.iff a b ha hb]
  refine and_congr_right fun _ => forall_congr' fun x => forall_congr' fun hx => forall_congr' fun k => forall_congr' fun hk => ?_
  rw [h.iff _ _ (hbr x a k hx ha hk) (hbr x b k hx hb hk), h.iff _ _ (hbr x k a hx hk ha) (hbr x k b hx hk hb)]
theorem EqS.refl (r : Nat) : ∀ p, EqS L n br acc r p p := by
  induction r with
  | zero => exact fun _ => rfl
  | succ r ih => exact fun p => ⟨ih p, fun x _ k _ => ⟨ih _, ih _⟩⟩
theorem EqS.symm (r : Nat) : ∀ p q, EqS L n br acc r p q → EqS L n br acc r q p := by
  induction r with
  | zero => exact fun _ _ h => Eq.symm h
  | succ r ih => exact fun p q h => ⟨ih p q h.1, fun x hx k hk => ⟨ih _ _ (h.2 x hx k hk).1, ih _ _ (h.2 x hx k hk).2⟩⟩
theorem EqS.trans (r : Nat) : ∀ p q s, EqS L n br acc r p q → EqS L n br acc r q s → EqS L n br acc r p s := by
  induction r with
  | zero => exact fun _ _ _ h k => Eq.trans h k
  | succ r ih => exact fun p q s h k' => ⟨ih p q s h.1 k'.1, fun x hx k hk => ⟨ih _ _ _ (h.2 x hx k hk).1 (k'.2 x hx k hk).1, ih _ _ _ (h.2 x hx k hk).2 (k'.2 x hx k hk).2⟩⟩
/-- What the representatives give are the classes of the next round. -/
theorem RepS.cls (h : RepS (EqS L n br acc r) n F nx) : ClsAt L n br acc r nx F.length := by
  refine ⟨h.len, fun i j hi hj => ?_, fun v => ?_⟩
  · obtain ⟨u, hu⟩ := get_lt (l := nx) (i := i) (by rw [h.len]; exact hi)
    obtain ⟨v, hv⟩ := get_lt (l := nx) (i := j) (by rw [h.len]; exact hj)
    rw [getD_some hu, getD_some hv]
    obtain ⟨f, hf, e1⟩ := h.at_ i u hu
    obtain ⟨g, hg, e2⟩ := h.at_ j v hv
    constructor
    · rintro rfl
      rw [hf] at hg
      injection hg with hg
      subst hg
      exact EqS.trans r _ _ _ (EqS.symm r _ _ e1) e2
    · intro e
      have h1 : EqS L n br acc r f g := EqS.trans r _ _ _ e1 (EqS.trans r _ _ _ e (EqS.symm r _ _ e2))
      rcases Nat.lt_trichotomy u v with hl | rfl | hl
      · exact (h.sep u v f g hl hf hg h1).elim
      · rfl
      · exact (h.sep v u g f hl hg hf (EqS.symm r _ _ h1)).elim
  · constructor
    · intro hv
      obtain ⟨j, hj⟩ := List.mem_iff_getElem?.1 hv
      obtain ⟨f, hf, -⟩ := h.at_ j v hj
      exact lt_of_get hf
    · intro hv
      obtain ⟨f, hf⟩ := get_lt hv
      exact List.mem_of_getElem? (h.src v f hf).2
theorem ClsAt.toI {cnt : Nat} (h : ClsAt L n br acc r cl cnt) : ClsI L n br acc r cl := ⟨h.len, h.iff⟩

theorem kinds_spec (xs : List Nat) : ∀ k, k ≤ xs.length → ∃ l : List Nat, l.Nodup ∧ (∀ v, v ∈ l ↔ v ∈ xs.take k) ∧ l.length = kindsL xs k
  | 0, _ => ⟨[], List.nodup_nil, by simp, rfl⟩
  | k + 1, hk => by
    obtain ⟨l, h1, h2, h3⟩ := kinds_spec xs k (by omega)
    obtain ⟨x, hx⟩ := get_lt (l := xs) (i := k) (by omega)
    have ht := take_snoc hx
    have hd : xs.getD k 0 = x := getD_some hx
    unfold kindsL
    rw [hd]
    by_cases hm : x ∈ xs.take k
    · refine ⟨l, h1, fun v => ?_, by rw [if_pos hm, h3]; rfl⟩
      rw [h2 v, ht]
      constructor
      · exact fun h => List.mem_append_left _ h
      · intro h
        rcases List.mem_append.1 h with h | h
        · exact h
        · obtain rfl := List.mem_singleton.1 h; exact hm
    · refine ⟨l ++ [x], ?_, fun v => ?_, by rw [if_neg hm, List.length_append, h3]; rfl⟩
      · rw [List.nodup_append]
        exact ⟨h1, by simp, fun a ha b hb => by simp at hb; subst hb; rintro rfl; exact hm ((h2 _).1 ha)⟩
      · rw [ht]
        simp only [List.mem_append, List.mem_singleton, h2 v]
/-- Classes can be numbered without gaps. -/
theorem ClsI.norm (h : ClsI L n br acc r cl) : ∃ cl', ClsAt L n br acc r cl' (kindsL cl cl.length) := by
  obtain ⟨l, h1, h2, h3⟩ := kinds_spec cl cl.length (Nat.le_refl _)
  have hm : ∀ v, v ∈ l ↔ v ∈ cl := fun v => by rw [h2 v, List.take_length]
  have hg : ∀ i, i < n → ∃ x, cl[i]? = some x ∧ x ∈ l ∧ (cl.map fun v => l.idxOf v).getD i 0 = l.idxOf x := fun i hi => by
    obtain ⟨x, hx⟩ := get_lt (l := cl) (i := i) (by rw [h.len]; exact hi)
    exact ⟨x, hx, (hm x).2 (List.mem_of_getElem? hx), getD_some (map_get (f := fun v => l.idxOf v) hx)⟩
  have hinj : ∀ x y, x ∈ l → y ∈ l → l.idxOf x = l.idxOf y → x = y := fun x y hx hy e => by
    have a := num_get hx
    have b := num_get hy
    unfold numL at a b
    rw [e, b] at a
    exact (Option.some.inj a).symm
  refine ⟨cl.map fun v => l.idxOf v, ⟨by simp [h.len], fun i j hi hj => ?_, fun v => ?_⟩⟩
  · obtain ⟨x, hx, hxl, ex⟩ := hg i hi
    obtain ⟨y, hy, hyl, ey⟩ := hg j hj
    rw [ex, ey, ← h.iff i j hi hj, getD_some hx, getD_some hy]
    exact ⟨hinj x y hxl hyl, fun e => by rw [e]⟩
  · rw [← h3]
    constructor
    · intro hv
      obtain ⟨x, hx, rfl⟩ := List.mem_map.1 hv
      exact List.idxOf_lt_length_of_mem ((hm x).2 hx)
    · intro hv
      obtain ⟨x, hx⟩ := get_lt hv
      have hxl := List.mem_of_getElem? hx
      refine List.mem_map.2 ⟨x, (hm x).1 hxl, ?_⟩
      have := num_get hxl
      unfold numL at this
      exact (List.getElem?_inj (List.idxOf_lt_length_of_mem hxl) h1).1 (this.trans hx.symm)
theorem ClsI.grow (h : ClsI L n br acc r cl) (h' : ClsI L n br acc (r + 1) nx) : kindsL cl cl.length ≤ kindsL nx nx.length := by
  obtain ⟨a, ha⟩ := h.norm
  obtain ⟨b, hb⟩ := h'.norm
  exact ha.grow hb
/-- What classes returns. -/
structure ClsR (L n : Nat) (br : Nat → Nat → Nat → Nat) (acc : Nat → Bool) (d : Int) (cl : List Nat) : Prop where
  len : cl.length = n
  iff : ∀ i j, i < n → j < n → (cl.getD i 0 = cl.getD j 0 ↔ EqD L n br acc d i j)
  le : ∀ i, i < n → cl.getD i 0 ≤ n
  lt : d < 0 → ∀ i, i < n → cl.getD i 0 < n
theorem ClsI.atDepth (h : ClsI L n br acc r cl) (hle : ∀ i, i < n → cl.getD i 0 ≤ n) {d : Int} (hd : (r : Int) = d) : ClsR L n br acc d cl := by
  refine ⟨h.len, fun i j hi hj => ?_, hle, fun h0 => by omega⟩
  unfold EqD
  rw [if_neg (by omega), ← hd]
  exact h.iff i j hi hj
theorem ClsI.atRest (hM : IsM L n leaf br) (h : ClsI L n br acc r cl) {cnt : Nat} (h' : ClsAt L n br acc (r + 1) nx cnt) (he : kindsL nx nx.length = kindsL cl cl.length) {d : Int} (hd : d < 0 ∨ (r : Int) ≤ d) : ClsR L n br acc d nx := by
  obtain ⟨a, ha⟩ := h.norm
  obtain ⟨b, hb⟩ := h'.toI.norm
  rw [he] at hb
  have h1 := ha.atRest hM hb hd
  refine ⟨h'.len, fun i j hi hj => ?_, fun i hi => ?_, fun _ i hi => ?_⟩
  · rw [h'.iff i j hi hj, ← h1.iff i j hi hj, ha.iff i j hi hj]
    exact ⟨fun h => h.1, fun h => ha.rest hb hi hj h⟩
  · have := h'.val hi
    have := h'.le
    omega
  · have := h'.val hi
    have := h'.le
    omega
theorem ClsR.toD (h : ClsR L n br acc (-1) cl) : ClsD L n br acc (-1) cl := ⟨h.len, h.iff, h.lt (by omega)⟩
/-- The first classes: marks. -/
def clsA (ac : List Bool) : List Nat := ac.map fun b => if b = true then 1 else 0
theorem clsA_I (ac : List Bool) : ClsI L ac.length br (macc ac) 0 (clsA ac) := by
  refine ⟨by simp [clsA], fun i j hi hj => ?_⟩
  obtain ⟨a, ha⟩ := get_lt hi
  obtain ⟨b, hb⟩ := get_lt hj
  have e1 : (clsA ac).getD i 0 = if a = true then 1 else 0 := getD_some (map_get (f := fun b : Bool => if b = true then 1 else 0) ha)
  have e2 : (clsA ac).getD j 0 = if b = true then 1 else 0 := getD_some (map_get (f := fun b : Bool => if b = true then 1 else 0) hb)
  show _ ↔ macc ac i = macc ac j
  have e3 : macc ac i = a := getD_some ha
  have e4 : macc ac j = b := getD_some hb
  rw [e1, e2, e3, e4]
  cases a <;> cases b <;> simp
theorem clsA_le (ac : List Bool) (i : Nat) : (clsA ac).getD i 0 ≤ 1 := by
  rw [List.getD_eq_getElem?_getD]
  cases h : (clsA ac)[i]? with
  | none => simp
  | some x =>
    simp only [Option.getD_some]
    obtain ⟨b, -, rfl⟩ := List.mem_map.1 (List.mem_of_getElem? h)
    split <;> omega
end
end Go.Proofs.Ytnimlcbgeiajiaa

namespace Go.Proofs.Ytnimlcbgeiajiaa
open Go.RowKit

theorem fillC_cell {L : Nat} {row : List Nat} {j y : Nat} (h : row[j]? = some y) : (fillC L row)[j]? = some (encN y) := by
  unfold fillC
  have hj := lt_of_get h
  rw [List.getElem?_toArray, List.getElem?_append_left (by simpa using hj), List.getElem?_map, h]
  rfl

/-- What the call was handed, and the classes of the round. -/
structure RclX (w : World) (g2 L n gc : Nat) (vl vb va : Value) (lf : Nat → Nat) (br : Nat → Nat → Nat → Nat) (ac : Nat → Bool) (cl : List Nat) : Prop where
  t : TblF w L n vl vb va lf br ac
  b : Blk w g2 84 #[.int .i64 (L : Int), vl, vb, va]
  c : Blk w gc 3 (fillC n cl)
  len : cl.length = n
theorem RclX.at {w w' : World} {g2 L n gc : Nat} {vl vb va : Value} {lf : Nat → Nat} {br : Nat → Nat → Nat → Nat} {ac : Nat → Bool} {cl : List Nat} (h : RclX w g2 L n gc vl vb va lf br ac cl) (hb : Below w.heap.size w w') : RclX w' g2 L n gc vl vb va lf br ac cl :=
  ⟨h.t.below hb, h.b.below hb, h.c.below hb, h.len⟩
theorem RclX.cell {w : World} {g2 L n gc : Nat} {vl vb va : Value} {lf : Nat → Nat} {br : Nat → Nat → Nat → Nat} {ac : Nat → Bool} {cl : List Nat} (h : RclX w g2 L n gc vl vb va lf br ac cl) {j : Nat} (hj : j < n) : w.cell? ⟨gc, j, none⟩ = some (.int .i64 (clN' cl j : Int)) := by
  obtain ⟨y, hy⟩ := get_lt (l := cl) (i := j) (by rw [h.len]; exact hj)
  rw [h.c.cell, fillC_cell hy]
  unfold clN'
  rw [getD_some hy]
  rfl
theorem RclX.alike {w : World} {g2 L n gc c a b : Nat} {vl vb va : Value} {lf : Nat → Nat} {br : Nat → Nat → Nat → Nat} {ac : Nat → Bool} {cl : List Nat} (h : RclX w g2 L n gc vl vb va lf br ac cl) (hbr : ∀ x i k, x < L → i < n → k < n → br x i k < n) (hn : n ≤ 20000) (hL : L ≤ 8) (ha : a < n) (hb : b < n) :
    Calls Try.prog 108 #[.agg #[.int .i64 (L : Int), vl, vb, va], .slice (some ⟨gc, 0, none⟩) n c, .int .i64 (a : Int), .int .i64 (b : Int)] w (Ret fun v w' => (∃ r : Bool, v = .bool r ∧ (r = true ↔ Alike L n br cl a b)) ∧ Below w.heap.size w w') :=
  alike_any h.t hbr (fun j hj => h.cell hj) h.c.lt ha hb (by omega) hL

set_option maxHeartbeats 8000000 in
set_option maxRecDepth 100000 in
/-- The first representative that a state is like. -/
theorem rcl_k {wB w : World} {base g2 L n gc cc cf i : Nat} {A : Option Addr} {vl vb va : Value} {lf : Nat → Nat} {br : Nat → Nat → Nat → Nat} {ac : Nat → Bool} {cl F : List Nat} (hX : RclX wB g2 L n gc vl vb va lf br ac cl) (hbr : ∀ x i k, x < L → i < n → k < n → br x i k < n) (hn : n ≤ 20000) (hL : L ≤ 8) (hi : i < n)
    (hB : Below wB.heap.size wB w) (hF : w.ownsRow base 3 1 (.slice A F.length cf) F.length (F.map encN)) (hFn : ∀ f ∈ F, f < n) (hFl : F.length ≤ 20000)
    {u0 u1 u3 u4 u5 u7 u8 u9 u13 u14 u15 u16 u17 u18 u19 u20 u21 u22 u23 u24 u25 u26 u27 u28 u29 u30 u31 u32 u33 u34 u35 u36 u37 u38 u39 u40 u41 u42 u43 u44 u45 u46 u47 u48 u49 u50 u51 u52 u53 u54 u55 u56 u57 u58 u59 u60 u61 u62 u63 u64 u65 u66 u67 u68 u69 u70 u71 u72 u73 u74 u75 u76 u77 u78 u79 u80 u81 u82 u83 : Value}
    {Q : Exit → Act → World → Prop} (hN : Reg.NoQ Q)
    (hQ : ∀ (x47 x48 x49 x50 x51 x52 x53 x54 x55 x56 x57 x58 x59 x60 x61 x62 x63 : Value) (w' : World) (k : Nat), Below w.heap.size w w' → k ≤ F.length → (∀ p f, p < k → F[p]? = some f → ¬ Alike L n br cl f i) → (∀ f, F[k]? = some f → Alike L n br cl f i) →
      Q (.exit 6) ⟨List.toArray (u0 :: u1 :: (.pointer (some ⟨g2, 0, none⟩)) :: u3 :: u4 :: u5 :: (.slice (some ⟨gc, 0, none⟩) n cc) :: u7 :: u8 :: u9 :: (.slice A F.length cf) :: (.int .i64 i) :: (.int .i64 k) :: u13 :: u14 :: u15 :: u16 :: u17 :: u18 :: u19 :: u20 :: u21 :: u22 :: u23 :: 
      u24 :: u25 :: u26 :: u27 :: u28 :: u29 :: u30 :: u31 :: u32 :: u33 :: u34 :: u35 :: u36 :: u37 :: u38 :: u39 :: u40 :: u41 :: u42 :: u43 :: u44 :: u45 :: u46 :: x47 :: x48 :: x49 :: x50 :: x51 :: x52 :: x53 :: x54 :: x55 :: x56 :: x57 :: x58 :: x59 :: x60 :: 
      x61 :: x62 :: x63 :: u64 :: u65 :: u66 :: u67 :: u68 :: u69 :: u70 :: u71 :: u72 :: u73 :: u74 :: u75 :: u76 :: u77 :: u78 :: u79 :: u80 :: u81 :: u82 :: u83 :: []), []⟩ w') :
    (Code.loop (loopBody Try.f79 3)).wp Try.prog Q ⟨List.toArray (u0 :: u1 :: (.pointer (some ⟨g2, 0, none⟩)) :: u3 :: u4 :: u5 :: (.slice (some ⟨gc, 0, none⟩) n cc) :: u7 :: u8 :: u9 :: (.slice A F.length cf) :: (.int .i64 i) :: (.int .i64 0) :: u13 :: u14 :: u15 :: u16 :: u17 :: u18 :: u19 :: u20 :: u21 :: u22 :: u23 :: 
      u24 :: u25 :: u26 :: u27 :: u28 :: u29 :: u30 :: u31 :: u32 :: u33 :: u34 :: u35 :: u36 :: u37 :: u38 :: u39 :: u40 :: u41 :: u42 :: u43 :: u44 :: u45 :: u46 :: u47 :: u48 :: u49 :: u50 :: u51 :: u52 :: u53 :: u54 :: u55 :: u56 :: u57 :: u58 :: u59 :: u60 :: 
      u61 :: u62 :: u63 :: u64 :: u65 :: u66 :: u67 :: u68 :: u69 :: u70 :: u71 :: u72 :: u73 :: u74 :: u75 :: u76 :: u77 :: u78 :: u79 :: u80 :: u81 :: u82 :: u83 :: []), []⟩ w := by
  conv => arg 2; arg 1; whnf
  go_loopw [12] (fun kk wr => ∃ (k : Nat), kk = .int .i64 (k : Int) ∧ k ≤ F.length ∧ Below w.heap.size w wr ∧ Hid (∀ (p f : Nat), p < k → F[p]? = some f → ¬ Alike L n br cl f i)) (fun kk _ => F.length - (intOf kk).toNat)
  case atStart => exact ⟨0, rfl, Nat.zero_le _, Below.refl _ _, fun p f h => absurd h (by omega)⟩
  case round =>
    obtain ⟨k, rfl, hk, hBr, hE⟩ := hrel
    have hBB := hide (hB.trans (hBr.mono hB.size))
    have hc2 := (hX.at hBB.out).b.cell
    have hBrH := hide hBr
    have hst := hide (hBr.trans ((drew_below wr).mono hBr.size))
    by_cases hlt : k < F.length
    · obtain ⟨f, hf⟩ := get_lt hlt
      have hfn := hFn f (List.mem_of_getElem? hf)
      obtain ⟨gf, cf', hv, hcf⟩ := own_get ((Kept.of_below hBr (fun _ => False)).ownsRow hF (fun _ _ => id)) (map_get (f := encN) hf)
      injection hv with hv _ hv3
      subst hv hv3
      simp only [encN] at hcf
      have hfH := hide hf
      have hXd := hide (hX.at (hBB.out.trans ((drew_below wr).mono hBB.out.size)))
      clear hf hBr
      go_wp2_with fail
      refine Reg.region_plain [0, 0, 2, 7, 15, 31, 31, 31, 31, 415, 927, 31, 4095, 8191, 16383] (by kernel_rfl) (by repeat (first | exact hN | refine Reg.NoQ.then ?_ | refine Reg.NoQ.inBlock ?_)) ?_
      go_wp2_with (go_at_call 108; refine Calls.ret (hXd.out.alike hbr hn hL hfn hi) ?_; rintro r w4 ⟨⟨b, rfl, hb⟩, hb4⟩; have hbH := hide hb; have hb44 := hide (hst.out.trans (hb4.mono hst.out.size)); clear hb hb4; cases b)
      · exact ⟨⟨k + 1, by go_num, by omega, hb44.out, fun p g hp hg => by
          by_cases e : p = k
          · subst e
            rw [hfH.out] at hg
            injection hg with hg
            subst hg
            exact fun h => by have := hbH.out.2 h; cases this
          · exact hE.out p g (by omega) hg⟩, by simp [intOf]; omega⟩
      · exact hQ _ _ _ _ _ _ _ _ _ _ _ _ _ _ _ _ _ w4 k hb44.out hk hE.out (fun g hg => by
          rw [hfH.out] at hg
          injection hg with hg
          subst hg
          exact hbH.out.1 (by trivial))
    · obtain rfl : k = F.length := by omega
      go_wp2_with fail
      refine Reg.region_plain [0, 0, 2, 7, 15, 31, 31, 31, 31, 415, 927, 31, 4095, 8191, 16383] (by kernel_rfl) (by repeat (first | exact hN | refine Reg.NoQ.then ?_ | refine Reg.NoQ.inBlock ?_)) ?_
      go_wp2_with fail
      exact hQ _ _ _ _ _ _ _ _ _ _ _ _ _ _ _ _ _ _ F.length hst.out (Nat.le_refl _) hE.out (fun f hf => by have := lt_of_get hf; omega)

/-- A round: the states before i have their numbers. -/
structure RclI (wB wr : World) (E : Nat → Nat → Prop) (n gn i : Nat) (vf : Value) (F nx : List Nat) : Prop where
  below : Below wB.heap.size wB wr
  next : Blk wr gn 3 (fillC n nx)
  first : wr.ownsRow (gn + 1) 3 1 vf F.length (F.map encN)
  hgn : wB.heap.size ≤ gn
  rep : Hid (RepS E i F nx)
theorem RclI.call {wB wr w4 : World} {E : Nat → Nat → Prop} {n gn i : Nat} {vf : Value} {F nx : List Nat} (h : RclI wB wr E n gn i vf F nx) (hb : Below wr.heap.size wr w4) : RclI wB w4 E n gn i vf F nx :=
  ⟨h.below.trans (hb.mono h.below.size), h.next.below hb, (Kept.of_below hb (fun _ => False)).ownsRow h.first (fun _ _ => id), h.hgn, h.rep⟩

set_option maxHeartbeats 8000000 in
set_option maxRecDepth 100000 in
theorem rcl_i {wB w : World} {g2 L n gc cc gn : Nat} {vl vb va : Value} {lf : Nat → Nat} {br : Nat → Nat → Nat → Nat} {ac : Nat → Bool} {cl : List Nat} (hX : RclX wB g2 L n gc vl vb va lf br ac cl) (hbr : ∀ x i k, x < L → i < n → k < n → br x i k < n) (hn : n ≤ 20000) (hL : L ≤ 8)
    (hI : RclI wB w (Alike L n br cl) n gn 0 (.slice none 0 0) [] [])
    {u0 u1 u3 u4 u7 u8 u12 u13 u14 u15 u16 u17 u18 u19 u20 u21 u22 u23 u24 u25 u26 u27 u28 u29 u30 u31 u32 u33 u34 u35 u36 u37 u38 u39 u40 u41 u42 u43 u44 u45 u46 u47 u48 u49 u50 u51 u52 u53 u54 u55 u56 u57 u58 u59 u60 u61 u62 u63 u64 u65 u66 u67 u68 u69 u70 u71 u72 u73 u74 u75 u76 u77 u78 u79 u80 u81 u82 u83 : Value}
    {Q : Exit → Act → World → Prop} (hN : Reg.NoQ Q)
    (hQ : ∀ (x10 x11 x12 x42 x43 x44 x45 x46 x47 x48 x49 x50 x51 x52 x53 x54 x55 x56 x57 x58 x59 x60 x61 x62 x63 x64 x65 x66 x67 x68 x69 x70 x71 x72 x73 x74 x75 : Value) (w' : World) (vf : Value) (F nx : List Nat), RclI wB w' (Alike L n br cl) n gn n vf F nx →
      Q (.exit 4) ⟨List.toArray (u0 :: u1 :: (.pointer (some ⟨g2, 0, none⟩)) :: u3 :: u4 :: (.int .i64 n) :: (.slice (some ⟨gc, 0, none⟩) n cc) :: u7 :: u8 :: (.slice (some ⟨gn, 0, none⟩) n n) :: x10 :: x11 :: x12 :: u13 :: u14 :: u15 :: u16 :: u17 :: u18 :: u19 :: u20 :: u21 :: u22 :: u23 :: 
      u24 :: u25 :: u26 :: u27 :: u28 :: u29 :: u30 :: u31 :: u32 :: u33 :: u34 :: u35 :: u36 :: u37 :: u38 :: u39 :: u40 :: u41 :: x42 :: x43 :: x44 :: x45 :: x46 :: x47 :: x48 :: x49 :: x50 :: x51 :: x52 :: x53 :: x54 :: x55 :: x56 :: x57 :: x58 :: x59 :: x60 :: 
      x61 :: x62 :: x63 :: x64 :: x65 :: x66 :: x67 :: x68 :: x69 :: x70 :: x71 :: x72 :: x73 :: x74 :: x75 :: u76 :: u77 :: u78 :: u79 :: u80 :: u81 :: u82 :: u83 :: []), []⟩ w') :
    (Code.loop (loopBody Try.f79 2)).wp Try.prog Q ⟨List.toArray (u0 :: u1 :: (.pointer (some ⟨g2, 0, none⟩)) :: u3 :: u4 :: (.int .i64 n) :: (.slice (some ⟨gc, 0, none⟩) n cc) :: u7 :: u8 :: (.slice (some ⟨gn, 0, none⟩) n n) :: (.slice none 0 0) :: (.int .i64 0) :: u12 :: u13 :: u14 :: u15 :: u16 :: u17 :: u18 :: u19 :: u20 :: 
      u21 :: u22 :: u23 :: u24 :: u25 :: u26 :: u27 :: u28 :: u29 :: u30 :: u31 :: u32 :: u33 :: u34 :: u35 :: u36 :: u37 :: u38 :: u39 :: u40 :: u41 :: u42 :: u43 :: u44 :: u45 :: u46 :: u47 :: u48 :: u49 :: u50 :: u51 :: u52 :: u53 :: u54 :: u55 :: u56 :: u57 :: 
      u58 :: u59 :: u60 :: u61 :: u62 :: u63 :: u64 :: u65 :: u66 :: u67 :: u68 :: u69 :: u70 :: u71 :: u72 :: u73 :: u74 :: u75 :: u76 :: u77 :: u78 :: u79 :: u80 :: u81 :: u82 :: u83 :: []), []⟩ w := by
  conv => arg 2; arg 1; whnf
  go_loopw [10, 11] (fun ff ii wr => ∃ (i : Nat) (F nx : List Nat), ii = .int .i64 (i : Int) ∧ i ≤ n ∧ RclI wB wr (Alike L n br cl) n gn i ff F nx) (fun _ ii _ => n - (intOf ii).toNat)
  case atStart => exact ⟨0, [], [], rfl, Nat.zero_le _, hI⟩
  case round =>
    obtain ⟨i, F, nx, rfl, hi, hR⟩ := hrel
    obtain ⟨A, cf, rfl⟩ := slice_of_own hR.first
    have hRH := hide hR
    have hFl := hR.rep.out.le
    clear hR
    by_cases hlt : i < n
    · have hFn := hide (fun (f : Nat) (hf : f ∈ F) => show f < n from by
        obtain ⟨p, hp⟩ := List.mem_iff_getElem?.1 hf
        have := (hRH.out.rep.out.src p f hp).1
        omega)
      go_wp2_with fail
      refine rcl_k hX hbr hn hL hlt hRH.out.below hRH.out.first hFn.out (by omega) ?_ ?_
      · repeat (first | exact hN | refine Reg.NoQ.then ?_ | refine Reg.NoQ.inBlock ?_)
      · iterate 17 (intro _)
        intro w3 k hb3 hk hno hyes
        have hR3 := hide (hRH.out.call hb3)
        have hnxl := hR3.out.rep.out.len
        have hnH := hide hno
        have hyH := hide hyes
        have hfg := hR3.out.next.frozen i
        have hlg := hR3.out.next.lt
        have hcg : w3.cell? ⟨gn, i, none⟩ = some (.int .i64 0) := by
          rw [hR3.out.next.cell, ← hnxl]
          exact fillC_get (by omega)
        have hnlH := hide hnxl
        clear hno hyes hnxl
        by_cases hkl : k < F.length
        · have hne : ((k : Int) == (F.length : Int)) = false := by simp; omega
          go_wp2_with fail
          obtain ⟨f, hf⟩ := get_lt hkl
          have hks : Kept w3 (w3.setCell ⟨gn, i, none⟩ (.int .i64 (k : Int))) (fun b => b = gn) := (Kept.refl w3 (fun b => b = gn)).setCell (p := ⟨gn, i, none⟩) (fun _ => rfl) _
          refine ⟨⟨i + 1, F, nx ++ [k], by go_num, by omega, ⟨?_, ?_, ?_, hR3.out.hgn, hR3.out.rep.out.old hf (hyH.out f hf)⟩⟩, by simp [intOf]; omega⟩
          · exact hR3.out.below.trans (hks.below hR3.out.below.size fun b hb e => by have := hR3.out.hgn; omega)
          · have := hR3.out.next.set_ i (.int .i64 (k : Int))
            rw [← hnlH.out, fillC_set (by have := hnlH.out; omega)] at this
            rw [← hnlH.out]
            exact this
          · exact hks.ownsRow hR3.out.first fun b hb e => by have := own_base hR3.out.first hb; omega
        · obtain rfl : k = F.length := by omega
          have heq : ((F.length : Int) == (F.length : Int)) = true := by simp
          have hf3 := hR3.out.first
          have hs3 := hlg
          clear hcg hfg hlg
          go_wp2_with (at_builtin; refine wpList_app_new row22 rfl _ _ rfl (gn + 1) (.slice A F.length cf) F.length _ rfl hf3 [.int .i64 (i : Int)] 1 rfl rfl (by simp [Value.oneCell']) (by omega) (by omega) ?_; intro g5 cap5 w5 hown5 hk5 hmv5 hg5
                       have hne5 : ¬ (Value.slice A F.length cf).ownBlock = some gn := fun e => by have := own_base hf3 e; omega
                       have hn5 := hR3.out.next.kept hk5 hne5
                       have hcg : w5.cell? ⟨gn, i, none⟩ = some (.int .i64 0) := (by rw [hn5.cell, ← hnlH.out]; exact fillC_get (by have := hnlH.out; omega))
                       have hfg := hn5.frozen i
                       have hlg := hn5.lt
                       have hnn5 := hide hn5
                       have hkk5 := hide hk5
                       have hoo5 := hide hown5
                       clear hn5 hk5 hown5 hmv5 hg5 hne5)
          have hks : Kept w5 (w5.setCell ⟨gn, i, none⟩ (.int .i64 (F.length : Int))) (fun b => b = gn) := (Kept.refl w5 (fun b => b = gn)).setCell (p := ⟨gn, i, none⟩) (fun _ => rfl) _
          refine ⟨⟨i + 1, F ++ [i], nx ++ [F.length], by go_num, by omega, ⟨?_, ?_, ?_, hR3.out.hgn, hR3.out.rep.out.new ⟨rfl, fun x _ k _ => ⟨rfl, rfl⟩⟩ fun p f hp => hnH.out p f (lt_of_get hp) hp⟩⟩, by simp [intOf]; omega⟩
          · have h1 := hR3.out.hgn
            have h2 := hR3.out.below.size
            exact (hR3.out.below.trans (hkk5.out.below h2 fun b hb e => by have := own_base hf3 e; omega)).trans (hks.below (by have := hkk5.out.size; omega) fun b hb e => by omega)
          · have := hnn5.out.set_ i (.int .i64 (F.length : Int))
            rw [← hnlH.out, fillC_set (by have := hnlH.out; omega)] at this
            rw [← hnlH.out]
            exact this
          · have := hks.ownsRow hoo5.out fun b hb e => by have := own_base hoo5.out hb; omega
            simpa [encN] using this
    · obtain rfl : i = n := by omega
      go_wp2_with fail
      exact hQ _ _ _ _ _ _ _ _ _ _ _ _ _ _ _ _ _ _ _ _ _ _ _ _ _ _ _ _ _ _ _ _ _ _ _ _ _ wr _ F nx hRH.out
end Go.Proofs.Ytnimlcbgeiajiaa

namespace Go.Proofs.Ytnimlcbgeiajiaa
open Go.RowKit

theorem kinds_at {w : World} {g c n : Nat} {xs : List Nat} (hx : xs.length = n) (h : Blk w g 3 (fillC n xs)) (hc : n ≤ c) (hn : n ≤ 100000000) :
    Calls Try.prog 109 #[.slice (some ⟨g, 0, none⟩) n c] w (Ret fun v w' => v = .int .i64 (kindsL xs xs.length : Int) ∧ Below w.heap.size w w') := by
  subst hx
  exact kinds_any (fun j y hj => by rw [h.cell, fillC_cell hj]) h.lt hc hn

set_option maxHeartbeats 8000000 in
set_option maxRecDepth 100000 in
theorem rcl_first {w0 w : World} {g2 L gc : Nat} {vl vb va : Value} {lf : Nat → Nat} {br : Nat → Nat → Nat → Nat} {ac : List Bool} (hT : TblF w0 L ac.length vl vb va lf br (macc ac)) (hb2 : Blk w0 g2 84 #[.int .i64 (L : Int), vl, vb, va]) (hn : ac.length ≤ 20000)
    (hB : Below w0.heap.size w0 w) (hC : Blk w gc 3 (fillC ac.length [])) (hgc : w0.heap.size ≤ gc)
    {u0 u1 u3 u4 u8 u9 u10 u11 u12 u13 u14 u15 u16 u17 u18 u19 u20 u21 u22 u23 u24 u25 u26 u27 u28 u29 u30 u31 u32 u33 u34 u35 u36 u37 u38 u39 u40 u41 u42 u43 u44 u45 u46 u47 u48 u49 u50 u51 u52 u53 u54 u55 u56 u57 u58 u59 u60 u61 u62 u63 u64 u65 u66 u67 u68 u69 u70 u71 u72 u73 u74 u75 u76 u77 u78 u79 u80 u81 u82 u83 : Value}
    {Q : Exit → Act → World → Prop}
    (hQ : ∀ (x7 x18 x19 x20 x21 x22 x23 x24 x25 x26 x27 x28 x29 x30 : Value) (w' : World), Below w0.heap.size w0 w' → Blk w' gc 3 (fillC ac.length (clsA ac)) →
      Q (.exit 0) ⟨List.toArray (u0 :: u1 :: (.pointer (some ⟨g2, 0, none⟩)) :: u3 :: u4 :: (.int .i64 ac.length) :: (.slice (some ⟨gc, 0, none⟩) ac.length ac.length) :: x7 :: u8 :: u9 :: u10 :: u11 :: u12 :: u13 :: u14 :: u15 :: u16 :: u17 :: x18 :: x19 :: x20 :: x21 :: x22 :: x23 :: x24 :: 
      x25 :: x26 :: x27 :: x28 :: x29 :: x30 :: u31 :: u32 :: u33 :: u34 :: u35 :: u36 :: u37 :: u38 :: u39 :: u40 :: u41 :: u42 :: u43 :: u44 :: u45 :: u46 :: u47 :: u48 :: u49 :: u50 :: u51 :: u52 :: u53 :: u54 :: u55 :: u56 :: u57 :: u58 :: u59 :: u60 :: u61 :: 
      u62 :: u63 :: u64 :: u65 :: u66 :: u67 :: u68 :: u69 :: u70 :: u71 :: u72 :: u73 :: u74 :: u75 :: u76 :: u77 :: u78 :: u79 :: u80 :: u81 :: u82 :: u83 :: []), []⟩ w') :
    (Code.loop (loopBody Try.f79 0)).wp Try.prog Q ⟨List.toArray (u0 :: u1 :: (.pointer (some ⟨g2, 0, none⟩)) :: u3 :: u4 :: (.int .i64 ac.length) :: (.slice (some ⟨gc, 0, none⟩) ac.length ac.length) :: (.int .i64 0) :: u8 :: u9 :: u10 :: u11 :: u12 :: u13 :: u14 :: u15 :: u16 :: u17 :: u18 :: u19 :: u20 :: u21 :: u22 :: u23 :: 
      u24 :: u25 :: u26 :: u27 :: u28 :: u29 :: u30 :: u31 :: u32 :: u33 :: u34 :: u35 :: u36 :: u37 :: u38 :: u39 :: u40 :: u41 :: u42 :: u43 :: u44 :: u45 :: u46 :: u47 :: u48 :: u49 :: u50 :: u51 :: u52 :: u53 :: u54 :: u55 :: u56 :: u57 :: u58 :: u59 :: u60 :: 
      u61 :: u62 :: u63 :: u64 :: u65 :: u66 :: u67 :: u68 :: u69 :: u70 :: u71 :: u72 :: u73 :: u74 :: u75 :: u76 :: u77 :: u78 :: u79 :: u80 :: u81 :: u82 :: u83 :: []), []⟩ w := by
  conv => arg 2; arg 1; whnf
  obtain ⟨ga, ca, rfl, hac⟩ := hT.acc
  have haH := hide hac
  clear hac
  go_loopw [7] (fun ii wr => ∃ (k : Nat) (row : List Nat), ii = .int .i64 (k : Int) ∧ k ≤ ac.length ∧ Below w0.heap.size w0 wr ∧ Blk wr gc 3 (fillC ac.length row) ∧ Hid (row = (clsA ac).take k) ∧ row.length ≤ k ∧ k ≤ row.length) (fun ii _ => ac.length - (intOf ii).toNat)
  case atStart => exact ⟨0, [], rfl, Nat.zero_le _, hB, hC, by show _ = _; simp, by simp, by simp⟩
  case round =>
    obtain ⟨k, row, rfl, hk, hB', hou, hrow, hr1, hr2⟩ := hrel
    obtain rfl : k = row.length := by omega
    have hc2 := (hb2.below hB').cell
    by_cases hlt : row.length < ac.length
    · obtain ⟨b, hb⟩ := get_lt hlt
      have hca := (hB'.cell (cell_lt' (haH.out row.length hlt))).trans (haH.out row.length hlt)
      have hmb : macc ac row.length = b := getD_some hb
      rw [hmb] at hca
      have hnx := hide (map_get (f := fun b : Bool => if b = true then 1 else 0) hb)
      have hcg : wr.cell? ⟨gc, row.length, none⟩ = some (.int .i64 0) := by rw [hou.cell]; exact fillC_get hlt
      have hfg := hou.frozen row.length
      have hgl := hou.lt
      have hsn := hide (take_snoc hnx.out)
      clear hb hmb
      cases b
      · go_wp2_with fail
        refine ⟨⟨row.length + 1, row ++ [0], by simp, by omega, hB', by rw [fillC_zero hlt]; exact hou, ?_, by simp, by simp⟩, by simp [intOf]; omega⟩
        show _ = _
        exact (congrArg (· ++ [0]) hrow.out).trans hsn.out.symm
      · go_wp2_with fail
        have hou2 := hou.set_ row.length (.int .i64 (1 : Nat))
        rw [fillC_set hlt] at hou2
        refine ⟨⟨row.length + 1, row ++ [1], by simp, by omega, hB'.setCell (by simp; omega) _, hou2, ?_, by simp, by simp⟩, by simp [intOf]; omega⟩
        show _ = _
        exact (congrArg (· ++ [1]) hrow.out).trans hsn.out.symm
    · have e : row.length = ac.length := by omega
      have he := hide e
      clear e
      go_wp2_with fail
      refine hQ _ _ _ _ _ _ _ _ _ _ _ _ _ _ wr hB' ?_
      have h1 := hrow.out
      rw [List.take_of_length_le (by simp [clsA]; omega)] at h1
      rw [← h1]
      exact hou

set_option maxHeartbeats 8000000 in
set_option maxRecDepth 100000 in
theorem rcl_rounds {w0 w : World} {g2 L n gc : Nat} {d : Int} {vl vb va : Value} {lf : List Nat} {t : List (List (List Nat))} {ac : List Bool} {cl : List Nat} (hX : RclX w g2 L n gc vl vb va (mleaf lf) (mbr t) (macc ac) cl) (hok : IsM L n (mleaf lf) (mbr t)) (hn : n ≤ 20000) (hn1 : 1 ≤ n) (hL : L ≤ 8)
    (hB : Below w0.heap.size w0 w) (hgc : w0.heap.size ≤ gc) (hC : ClsI L n (mbr t) (macc ac) 0 cl) (hle : ∀ i, i < n → cl.getD i 0 ≤ n) (hd : d < 0 ∨ 0 ≤ d)
    {u0 u3 u4 u7 u9 u10 u11 u12 u13 u14 u15 u16 u17 u18 u19 u20 u21 u22 u23 u24 u25 u26 u27 u28 u29 u30 u31 u32 u33 u34 u35 u36 u37 u38 u39 u40 u41 u42 u43 u44 u45 u46 u47 u48 u49 u50 u51 u52 u53 u54 u55 u56 u57 u58 u59 u60 u61 u62 u63 u64 u65 u66 u67 u68 u69 u70 u71 u72 u73 u74 u75 u76 u77 u78 u79 u80 u81 u82 u83 : Value}
    {Q : Exit → Act → World → Prop} (hN : Reg.NoQ Q)
    (hQ : ∀ (x4 x8 x9 x10 x11 x12 x31 x32 x33 x34 x35 x36 x37 x38 x39 x40 x41 x42 x43 x44 x45 x46 x47 x48 x49 x50 x51 x52 x53 x54 x55 x56 x57 x58 x59 x60 x61 x62 x63 x64 x65 x66 x67 x68 x69 x70 x71 x72 x73 x74 x75 x76 x77 x78 x79 x80 x81 x82 : Value) (w' : World) (g : Nat) (cl' : List Nat), Below w0.heap.size w0 w' → w0.heap.size ≤ g → Blk w' g 3 (fillC n cl') → ClsR L n (mbr t) (macc ac) d cl' →
      Q (.exit 2) ⟨List.toArray (u0 :: (.int .i64 d) :: (.pointer (some ⟨g2, 0, none⟩)) :: u3 :: x4 :: (.int .i64 n) :: (.slice (some ⟨g, 0, none⟩) n n) :: u7 :: x8 :: x9 :: x10 :: x11 :: x12 :: u13 :: u14 :: u15 :: u16 :: u17 :: u18 :: u19 :: u20 :: u21 :: u22 :: u23 :: u24 :: u25 :: u26 :: 
      u27 :: u28 :: u29 :: u30 :: x31 :: x32 :: x33 :: x34 :: x35 :: x36 :: x37 :: x38 :: x39 :: x40 :: x41 :: x42 :: x43 :: x44 :: x45 :: x46 :: x47 :: x48 :: x49 :: x50 :: x51 :: x52 :: x53 :: x54 :: x55 :: x56 :: x57 :: x58 :: x59 :: x60 :: x61 :: x62 :: x63 :: 
      x64 :: x65 :: x66 :: x67 :: x68 :: x69 :: x70 :: x71 :: x72 :: x73 :: x74 :: x75 :: x76 :: x77 :: x78 :: x79 :: x80 :: x81 :: x82 :: u83 :: []), []⟩ w')
    (hQr : ∀ (x6 x8 x9 x10 x11 x12 x31 x32 x33 x34 x35 x36 x37 x38 x39 x40 x41 x42 x43 x44 x45 x46 x47 x48 x49 x50 x51 x52 x53 x54 x55 x56 x57 x58 x59 x60 x61 x62 x63 x64 x65 x66 x67 x68 x69 x70 x71 x72 x73 x74 x75 x76 x77 x78 x79 x80 x81 x82 : Value) (w' : World) (g : Nat) (cl' : List Nat), Below w0.heap.size w0 w' → w0.heap.size ≤ g → Blk w' g 3 (fillC n cl') → ClsR L n (mbr t) (macc ac) d cl' →
      Q .ret ⟨List.toArray (u0 :: (.int .i64 d) :: (.pointer (some ⟨g2, 0, none⟩)) :: u3 :: (.slice (some ⟨g, 0, none⟩) n n) :: (.int .i64 n) :: x6 :: u7 :: x8 :: x9 :: x10 :: x11 :: x12 :: u13 :: u14 :: u15 :: u16 :: u17 :: u18 :: u19 :: u20 :: u21 :: u22 :: u23 :: u24 :: u25 :: u26 :: 
      u27 :: u28 :: u29 :: u30 :: x31 :: x32 :: x33 :: x34 :: x35 :: x36 :: x37 :: x38 :: x39 :: x40 :: x41 :: x42 :: x43 :: x44 :: x45 :: x46 :: x47 :: x48 :: x49 :: x50 :: x51 :: x52 :: x53 :: x54 :: x55 :: x56 :: x57 :: x58 :: x59 :: x60 :: x61 :: x62 :: x63 :: 
      x64 :: x65 :: x66 :: x67 :: x68 :: x69 :: x70 :: x71 :: x72 :: x73 :: x74 :: x75 :: x76 :: x77 :: x78 :: x79 :: x80 :: x81 :: x82 :: u83 :: []), []⟩ w') :
    (Code.loop (loopBody Try.f79 1)).wp Try.prog Q ⟨List.toArray (u0 :: (.int .i64 d) :: (.pointer (some ⟨g2, 0, none⟩)) :: u3 :: u4 :: (.int .i64 n) :: (.slice (some ⟨gc, 0, none⟩) n n) :: u7 :: (.int .i64 0) :: u9 :: u10 :: u11 :: u12 :: u13 :: u14 :: u15 :: u16 :: u17 :: u18 :: u19 :: u20 :: u21 :: u22 :: u23 :: u24 :: 
      u25 :: u26 :: u27 :: u28 :: u29 :: u30 :: u31 :: u32 :: u33 :: u34 :: u35 :: u36 :: u37 :: u38 :: u39 :: u40 :: u41 :: u42 :: u43 :: u44 :: u45 :: u46 :: u47 :: u48 :: u49 :: u50 :: u51 :: u52 :: u53 :: u54 :: u55 :: u56 :: u57 :: u58 :: u59 :: u60 :: u61 :: 
      u62 :: u63 :: u64 :: u65 :: u66 :: u67 :: u68 :: u69 :: u70 :: u71 :: u72 :: u73 :: u74 :: u75 :: u76 :: u77 :: u78 :: u79 :: u80 :: u81 :: u82 :: u83 :: []), []⟩ w := by
  conv => arg 2; arg 1; whnf
  have hM := hide hok
  have hbrH := hide hok.br_lt
  go_loopw [6, 8] (fun vv rr wr => ∃ (r g : Nat) (l : List Nat), vv = .slice (some ⟨g, 0, none⟩) n n ∧ rr = .int .i64 (r : Int) ∧ RclX wr g2 L n g vl vb va (mleaf lf) (mbr t) (macc ac) l ∧ Below w0.heap.size w0 wr ∧ w0.heap.size ≤ g ∧
    Hid (ClsI L n (mbr t) (macc ac) r l) ∧ Hid (∀ i, i < n → l.getD i 0 ≤ n) ∧ (d < 0 ∨ (r : Int) ≤ d) ∧ r + 1 ≤ kindsL l l.length ∧ kindsL l l.length ≤ n) (fun _ rr _ => n - (intOf rr).toNat)
  case atStart =>
    obtain ⟨a, ha⟩ := hC.norm
    exact ⟨0, gc, cl, rfl, rfl, hX, hB, hgc, hC, hle, hd, ha.pos hn1, ha.le⟩
  case round =>
    obtain ⟨r, g, l, rfl, rfl, hX', hB', hg', hCC, hll, hrd, hk1, hk2⟩ := hrel
    by_cases hcont : d < 0 ∨ (r : Int) < d
    · obtain ⟨gn, w1, hmk, hR, hb1, hgn⟩ := mk_row wr n (by omega)
      rw [← fillC_nil] at hR
      have hI0 := hide (show RclI wr w1 (Alike L n (mbr t) l) n gn 0 (.slice none 0 0) [] [] from ⟨hb1, hR, own_nil, hgn, RepS.start _⟩)
      have hXH := hide hX'
      clear hR hb1 hX' hX
      have hor : d < 0 ∨ ¬ d < 0 ∧ (r : Int) < d := by omega
      have hrdH := hide hrd
      clear hcont hrd
      rcases hor with h1 | ⟨h1, h2⟩
      all_goals
        go_wp2_with fail
        refine rcl_i hXH.out hbrH.out hn hL hI0.out ?_ ?_
        · repeat (first | exact hN | refine Reg.NoQ.then ?_ | refine Reg.NoQ.inBlock ?_)
        · iterate 37 (intro _)
          intro w3 vf F nx hI3
          have hrep : RepS (EqS L n (mbr t) (macc ac) (r + 1)) n F nx := by
            obtain ⟨q1, q2, q3, q4⟩ := hI3.rep.out
            have hF : ∀ (p f : Nat), F[p]? = some f → f < n := fun p f hp => (q4 p f hp).1
            refine ⟨q1, fun j v hj => ?_, fun p q f g' hpq hp hq => ?_, q4⟩
            · obtain ⟨f, hf, he⟩ := q2 j v hj
              exact ⟨f, hf, (hCC.out.alike hbrH.out (hF v f hf) (by have := lt_of_get hj; omega)).1 he⟩
            · exact fun he => q3 p q f g' hpq hp hq ((hCC.out.alike hbrH.out (hF p f hp) (hF q g' hq)).2 he)
          have hC3 := hide hrep.cls
          have hIH := hide hI3
          have hnl := hide hrep.len
          have hx3 := hide (hXH.out.at hI3.below)
          have hs3 := hI3.below.size
          have hgrow := hide (hCC.out.grow hC3.out.toI)
          have hval : Hid (∀ i, i < n → nx.getD i 0 ≤ n) := fun i hi => by
            have := hC3.out.val hi
            have := hC3.out.le
            omega
          have hkn : kindsL nx nx.length ≤ n := by
            obtain ⟨a, ha⟩ := hC3.out.toI.norm
            exact ha.le
          clear hrep hI3
          by_cases hke : kindsL nx nx.length = kindsL l l.length
          · have hkH := hide hke
            have hkb : ((kindsL nx nx.length : Int) == (kindsL l l.length : Int)) = true := by rw [hke]; simp
            clear hke
            generalize hk3 : kindsL nx nx.length = K3 at *
            generalize hk4 : kindsL l l.length = K4 at *
            have hk33 := hide hk3
            have hk44 := hide hk4
            clear hk3 hk4
            go_wp2_with (go_at_call 109; first
              | (with_reducible refine Calls.ret (kinds_at hnl.out hIH.out.next (Nat.le_refl _) (by omega)) ?_; rintro v w4 ⟨rfl, hb4⟩; rw [hk33.out]; have hI4 := hide (hIH.out.call hb4); have hx4 := hide (hx3.out.at hb4); clear hb4)
              | (with_reducible refine Calls.ret (kinds_at hx4.out.len hx4.out.c (Nat.le_refl _) (by omega)) ?_; rintro v w5 ⟨rfl, hb5⟩; rw [hk44.out]; have hI5 := hide (hI4.out.call hb5); clear hb5))
            have e := hkH.out
            exact hQr _ _ _ _ _ _ _ _ _ _ _ _ _ _ _ _ _ _ _ _ _ _ _ _ _ _ _ _ _ _ _ _ _ _ _ _ _ _ _ _ _ _ _ _ _ _ _ _ _ _ _ _ _ _ _ _ _ _ w5 gn nx (hB'.trans (hI5.out.below.mono hB'.size)) (by have := hB'.size; omega) hI5.out.next (hCC.out.atRest hM.out hC3.out (by rw [hk33.out, hk44.out]; exact e) hrdH.out)
          · have hgr : kindsL l l.length < kindsL nx nx.length := by have := hgrow.out; omega
            have hkb : ((kindsL nx nx.length : Int) == (kindsL l l.length : Int)) = false := by simp; omega
            clear hke
            generalize hk3 : kindsL nx nx.length = K3 at *
            generalize hk4 : kindsL l l.length = K4 at *
            have hk33 := hide hk3
            have hk44 := hide hk4
            clear hk3 hk4
            go_wp2_with (go_at_call 109; first
              | (with_reducible refine Calls.ret (kinds_at hnl.out hIH.out.next (Nat.le_refl _) (by omega)) ?_; rintro v w4 ⟨rfl, hb4⟩; rw [hk33.out]; have hI4 := hide (hIH.out.call hb4); have hx4 := hide (hx3.out.at hb4); clear hb4)
              | (with_reducible refine Calls.ret (kinds_at hx4.out.len hx4.out.c (Nat.le_refl _) (by omega)) ?_; rintro v w5 ⟨rfl, hb5⟩; rw [hk44.out]; have hI5 := hide (hI4.out.call hb5); have hx5 := hide (hx4.out.at hb5); clear hb5))
            refine ⟨⟨r + 1, gn, nx, rfl, by go_num, ⟨hx5.out.t, hx5.out.b, hI5.out.next, hnl.out⟩, hB'.trans (hI5.out.below.mono hB'.size), by have := hB'.size; omega, hC3.out.toI, hval.out, by omega, by rw [hk33.out]; omega, by rw [hk33.out]; omega⟩, by simp [intOf]; omega⟩
    · have h0 : ¬ d < 0 := by omega
      have e : (r : Int) = d := by omega
      have hcl := hide (hCC.out.atDepth hll.out e)
      have h1 : ¬ (r : Int) < d := by omega
      have hXH := hide hX'
      clear e hcont hX' hX hrd
      go_wp2_with fail
      exact hQ _ _ _ _ _ _ _ _ _ _ _ _ _ _ _ _ _ _ _ _ _ _ _ _ _ _ _ _ _ _ _ _ _ _ _ _ _ _ _ _ _ _ _ _ _ _ _ _ _ _ _ _ _ _ _ _ _ _ wr g l hB' hg' hXH.out.c hcl.out
end Go.Proofs.Ytnimlcbgeiajiaa

namespace Go.Proofs.Ytnimlcbgeiajiaa
open Go.RowKit

set_option maxHeartbeats 8000000 in
set_option maxRecDepth 100000 in
theorem refclasses_any {w : World} {L : Nat} {d : Int} {vl vb va : Value} {lf : List Nat} {t : List (List (List Nat))} {ac : List Bool} (hT : TblF w L ac.length vl vb va (mleaf lf) (mbr t) (macc ac)) (hok : IsM L ac.length (mleaf lf) (mbr t)) (hn : ac.length ≤ 20000) (hn1 : 1 ≤ ac.length) (hL : L ≤ 8) :
    Calls Try.prog 79 #[.agg #[.int .i64 (L : Int), vl, vb, va], .int .i64 d] w (Ret fun v w' => Below w.heap.size w w' ∧ ∃ (g : Nat) (cl : List Nat), v = .slice (some ⟨g, 0, none⟩) ac.length ac.length ∧ w.heap.size ≤ g ∧ Blk w' g 3 (fillC ac.length cl) ∧ ClsR L ac.length (mbr t) (macc ac) d cl) := by
  obtain ⟨ga, ca, rfl, hac⟩ := hT.acc
  obtain ⟨gl, cl, rfl, -⟩ := hT.leaf
  obtain ⟨gv, cv, -, -, -, -, rfl, -⟩ := hT.tab
  obtain ⟨w1, hw1, hb1, hB1, hk1⟩ := box_blk w #[.int .i64 (L : Int), .slice (some ⟨gl, 0, none⟩) L cl, .slice (some ⟨gv, 0, none⟩) L cv, .slice (some ⟨ga, 0, none⟩) ac.length ca] 84
  obtain ⟨gc, w2, hmk, hR, hb2, hgc⟩ := mk_row w1 ac.length (by omega)
  rw [← fillC_nil] at hR
  have hsz1 := hb1.size
  have hsz2 := hb2.size
  have hT1 := hide (hT.below hb1)
  have hRH := hide hR
  have hb22 := hide hb2
  have hc1 := hB1.cell
  have hOK := hide hok
  clear hT hac hR hb2 hok
  go_enter Try.func79, Try.ntmps79
  go_wp2_with fail
  refine rcl_first hT1.out hB1 hn hb22.out hRH.out hgc ?_
  iterate 14 (intro _)
  intro w3 hb3 hC3
  have hX3 : RclX w3 w.heap.size L ac.length gc (.slice (some ⟨gl, 0, none⟩) L cl) (.slice (some ⟨gv, 0, none⟩) L cv) (.slice (some ⟨ga, 0, none⟩) ac.length ca) (mleaf lf) (mbr t) (macc ac) (clsA ac) := ⟨hT1.out.below hb3, hB1.below hb3, hC3, by simp [clsA]⟩
  have hXH := hide hX3
  have hb33 := hide hb3
  clear hX3 hb3 hC3 hc1
  go_wp2_with fail
  refine rcl_rounds hXH.out hOK.out hn hn1 hL hb33.out hgc (clsA_I ac) (fun i _ => Nat.le_trans (clsA_le ac i) hn1) (by omega) ?_ ?_ ?_
  · repeat (first | exact Reg.NoQ.body (fun _ _ h => h) (fun _ h => h) | refine Reg.NoQ.then ?_ | refine Reg.NoQ.inBlock ?_)
  · iterate 58 (intro _)
    intro w4 g cl4 hb4 hg hC4 hD4
    have hbH := hide hb4
    have hCH := hide hC4
    have hDH := hide hD4
    clear hb4 hC4 hD4
    go_wp2_with fail
    go_ret
    exact ⟨hb1.trans (hbH.out.mono hsz1), g, cl4, rfl, by omega, hCH.out, hDH.out⟩
  · iterate 58 (intro _)
    intro w4 g cl4 hb4 hg hC4 hD4
    have hbH := hide hb4
    have hCH := hide hC4
    have hDH := hide hD4
    clear hb4 hC4 hD4
    go_wp2_with fail
    go_ret
    exact ⟨hb1.trans (hbH.out.mono hsz1), g, cl4, rfl, by omega, hCH.out, hDH.out⟩
end Go.Proofs.Ytnimlcbgeiajiaa

namespace Go.Proofs.Ytnimlcbgeiajiaa
open Go.RowKit

/-- The number of a class, or -1. -/
def numF (l : List Nat) (c : Nat) : Int := if c ∈ l then ((l.idxOf c : Nat) : Int) else -1
theorem numF_old {l : List Nat} {c : Nat} (h : c ∈ l) : numF l c = (numL l c : Int) := by unfold numF numL; rw [if_pos h]
theorem numF_no {l : List Nat} {c : Nat} (h : c ∉ l) : numF l c = -1 := by unfold numF; rw [if_neg h]
theorem numF_new {l : List Nat} {c : Nat} (h : c ∉ l) (x : Nat) : numF (l ++ [c]) x = if x = c then (l.length : Int) else numF l x := by
  unfold numF
  by_cases hx : x ∈ l
  · have hne : x ≠ c := fun e => h (e ▸ hx)
    rw [if_pos (List.mem_append_left _ hx), if_neg hne, if_pos hx, List.idxOf_append, if_pos hx]
  · by_cases e : x = c
    · subst e
      rw [if_pos (by simp), if_pos rfl, List.idxOf_append, if_neg hx]
      simp
    · rw [if_neg (by simp [hx, e]), if_neg e, if_neg hx]

section
variable {n : Nat} {cl od : List Nat}
/-- The states that stand for the classes that have been found. -/
structure OdS (n : Nat) (cl od : List Nat) : Prop where
  nd : (od.map (clN' cl)).Nodup
  lt : ∀ s ∈ od, s < n
theorem OdS.nil (n : Nat) (cl : List Nat) : OdS n cl [] := ⟨by simp, by simp⟩
theorem OdS.len (h : OdS n cl od) (hcl : ∀ i, i < n → clN' cl i < n) : od.length ≤ n := by
  have := sub_len (od.map (clN' cl)) (List.range n) h.nd (fun a ha => by
    obtain ⟨s, hs, rfl⟩ := List.mem_map.1 ha
    exact List.mem_range.2 (hcl s (h.lt s hs)))
  simpa using this
theorem OdS.add (h : OdS n cl od) {s : Nat} (hs : s < n) (hn : clN' cl s ∉ od.map (clN' cl)) : OdS n cl (od ++ [s]) := by
  refine ⟨?_, fun a ha => ?_⟩
  · rw [List.map_append, List.nodup_append]
    exact ⟨h.nd, by simp, fun a ha b hb => by simp at hb; subst hb; rintro rfl; exact hn ha⟩
  · rcases List.mem_append.1 ha with ha | ha
    · exact h.lt a ha
    · obtain rfl := List.mem_singleton.1 ha; exact hs
theorem meet_new {l : List Nat} {c : Nat} (h : c ∉ l) : meetL l c = l ++ [c] := by unfold meetL; rw [if_neg h]
theorem meet_old {l : List Nat} {c : Nat} (h : c ∈ l) : meetL l c = l := by unfold meetL; rw [if_pos h]
theorem map_add (cl od : List Nat) (s : Nat) : (od ++ [s]).map (clN' cl) = od.map (clN' cl) ++ [clN' cl s] := by simp
end

section
variable {L : Nat} {ac : List Bool} {lf cl so : List Nat} {t : List (List (List Nat))}
/-- A state for each class: the first one. -/
def repL (n : Nat) (cl : List Nat) : List Nat := (List.range n).map fun c => if c ∈ cl then cl.idxOf c else 0
theorem rep_ok {n : Nat} (hlen : cl.length = n) (hlt : ∀ i, i < n → clN' cl i < n) (hn : 1 ≤ n) : Rep n cl (repL n cl) := by
  refine ⟨fun c => ?_, fun i hi => ?_⟩
  · rw [List.getD_eq_getElem?_getD]
    cases hx : (repL n cl)[c]? with
    | none => simp; omega
    | some y =>
      simp only [Option.getD_some]
      obtain ⟨c', -, rfl⟩ := List.mem_map.1 (List.mem_of_getElem? hx)
      split
      · rename_i hm
        have := List.idxOf_lt_length_of_mem hm
        omega
      · omega
  · obtain ⟨y, hy⟩ := get_lt (l := cl) (i := i) (by omega)
    have hyn := hlt i hi
    unfold clN' at hyn
    rw [getD_some hy] at hyn ⊢
    have hm := List.mem_of_getElem? hy
    have e : (repL n cl).getD y 0 = cl.idxOf y := getD_some (by simp [repL, hyn, hm])
    rw [e]
    exact getD_some (num_get hm)
theorem cls_br (hok : MOK L ac lf t) (hc : ClsD L ac.length (mbr t) (macc ac) (-1) cl) (hs : Rep ac.length cl so) {x p q : Nat} (hx : x < L) (hp : p < ac.length) (hq : q < ac.length) :
    clN' cl (mbr t x p q) = cBr cl so t x (clN' cl p) (clN' cl q) := by
  have hp' := hs.lt (clN' cl p)
  have hq' := hs.lt (clN' cl q)
  have e1 := (hc.inf hp' hp).1 (hs.cls p hp)
  have e2 := (hc.inf hq' hq).1 (hs.cls q hq)
  unfold cBr clN' at *
  generalize so.getD (cl.getD p 0) 0 = p' at *
  generalize so.getD (cl.getD q 0) 0 = q' at *
  have f1 : cl.getD (mbr t x p' q') 0 = cl.getD (mbr t x p q') 0 := (hc.inf (hok.isM.br_lt x p' q' hx hp' hq') (hok.isM.br_lt x p q' hx hp hq')).2 fun r => ((e1 (r + 1)).2 x hx q' hq').1
  have f2 : cl.getD (mbr t x p q') 0 = cl.getD (mbr t x p q) 0 := (hc.inf (hok.isM.br_lt x p q' hx hp hq') (hok.isM.br_lt x p q hx hp hq)).2 fun r => ((e2 (r + 1)).2 x hx p hp).2
  exact (f1.trans f2).symm
theorem cls_acc (hc : ClsD L ac.length (mbr t) (macc ac) (-1) cl) (hs : Rep ac.length cl so) {p : Nat} (hp : p < ac.length) : macc ac p = cAcc ac so (clN' cl p) := by
  have e1 := (hc.inf (hs.lt (clN' cl p)) hp).1 (hs.cls p hp) 0
  exact Eq.symm e1
/-- Rounds of finding: as RInv, over any list. -/
theorem foldl_snoc {A B : Type} (f : A → B → A) (a : A) (l : List B) (k : Nat) (x : B) (h : l[k]? = some x) : (l.take (k + 1)).foldl f a = f ((l.take k).foldl f a) x := by
  rw [take_snoc h, List.foldl_append]
  rfl
theorem range_snoc {A : Type} (f : A → Nat → A) (a : A) (k : Nat) : (List.range (k + 1)).foldl f a = f ((List.range k).foldl f a) k := by
  rw [List.range_succ, List.foldl_append]
  rfl
end
end Go.Proofs.Ytnimlcbgeiajiaa

namespace Go.Proofs.Ytnimlcbgeiajiaa
open Go.RowKit

set_option maxHeartbeats 4000000 in
set_option maxRecDepth 100000 in
theorem can_init {wB w : World} {n gN : Nat} (hn : n ≤ 20000) (hB : Below wB.heap.size wB w) (hR : Blk w gN 3 (rangeC n fun _ => .int .i64 0)) (hg : wB.heap.size ≤ gN)
    {u0 u1 u2 u3 u4 u7 u8 u9 u10 u11 u12 u13 u14 u15 u16 u17 u18 u19 u20 u21 u22 u23 u24 u25 u26 u27 u28 u29 u30 u31 u32 u33 u34 u35 u36 u37 u38 u39 u40 u41 u42 u43 u44 u45 u46 u47 u48 u49 u50 u51 u52 u53 u54 u55 u56 u57 u58 u59 u60 u61 u62 u63 u64 u65 u66 u67 u68 u69 u70 u71 u72 u73 u74 u75 u76 u77 u78 u79 u80 u81 u82 u83 u84 u85 u86 u87 u88 u89 u90 u91 u92 u93 u94 u95 u96 u97 u98 u99 u100 u101 u102 u103 u104 u105 u106 u107 u108 u109 u110 u111 u112 u113 u114 u115 u116 u117 u118 u119 u120 u121 u122 u123 u124 u125 u126 u127 u128 u129 u130 u131 u132 u133 u134 u135 u136 u137 u138 u139 u140 u141 u142 u143 u144 u145 u146 u147 u148 u149 u150 u151 u152 u153 u154 u155 u156 u157 u158 u159 u160 u161 u162 u163 u164 u165 u166 u167 u168 u169 u170 u171 u172 u173 u174 u175 u176 u177 u178 u179 u180 u181 u182 u183 u184 u185 u186 u187 u188 u189 u190 u191 u192 u193 u194 u195 u196 u197 u198 u199 u200 u201 u202 u203 u204 u205 u206 u207 u208 u209 u210 u211 u212 u213 u214 u215 u216 u217 u218 u219 u220 u221 u222 u223 u224 u225 : Value}
    {Q : Exit → Act → World → Prop}
    (hQ : ∀ (x6 x27 x28 x29 x30 x31 x32 x33 x34 x35 : Value) (w' : World), Below wB.heap.size wB w' → Blk w' gN 3 (rangeC n fun _ => .int .i64 (-1)) →
      Q (.exit 0) ⟨List.toArray (u0 :: u1 :: u2 :: u3 :: u4 :: (.slice (some ⟨gN, 0, none⟩) n n) :: x6 :: u7 :: u8 :: u9 :: u10 :: u11 :: u12 :: u13 :: u14 :: u15 :: u16 :: u17 :: u18 :: u19 :: u20 :: u21 :: u22 :: u23 :: u24 :: u25 :: u26 :: x27 :: x28 :: x29 :: x30 :: x31 :: x32 :: x33 :: 
      x34 :: x35 :: u36 :: u37 :: u38 :: u39 :: u40 :: u41 :: u42 :: u43 :: u44 :: u45 :: u46 :: u47 :: u48 :: u49 :: u50 :: u51 :: u52 :: u53 :: u54 :: u55 :: u56 :: u57 :: u58 :: u59 :: u60 :: u61 :: u62 :: u63 :: u64 :: u65 :: u66 :: u67 :: u68 :: u69 :: u70 :: 
      u71 :: u72 :: u73 :: u74 :: u75 :: u76 :: u77 :: u78 :: u79 :: u80 :: u81 :: u82 :: u83 :: u84 :: u85 :: u86 :: u87 :: u88 :: u89 :: u90 :: u91 :: u92 :: u93 :: u94 :: u95 :: u96 :: u97 :: u98 :: u99 :: u100 :: u101 :: u102 :: u103 :: u104 :: u105 :: u106 :: 
      u107 :: u108 :: u109 :: u110 :: u111 :: u112 :: u113 :: u114 :: u115 :: u116 :: u117 :: u118 :: u119 :: u120 :: u121 :: u122 :: u123 :: u124 :: u125 :: u126 :: u127 :: u128 :: u129 :: u130 :: u131 :: u132 :: u133 :: u134 :: u135 :: u136 :: u137 :: u138 :: u139 :: 
      u140 :: u141 :: u142 :: u143 :: u144 :: u145 :: u146 :: u147 :: u148 :: u149 :: u150 :: u151 :: u152 :: u153 :: u154 :: u155 :: u156 :: u157 :: u158 :: u159 :: u160 :: u161 :: u162 :: u163 :: u164 :: u165 :: u166 :: u167 :: u168 :: u169 :: u170 :: u171 :: u172 :: 
      u173 :: u174 :: u175 :: u176 :: u177 :: u178 :: u179 :: u180 :: u181 :: u182 :: u183 :: u184 :: u185 :: u186 :: u187 :: u188 :: u189 :: u190 :: u191 :: u192 :: u193 :: u194 :: u195 :: u196 :: u197 :: u198 :: u199 :: u200 :: u201 :: u202 :: u203 :: u204 :: u205 :: 
      u206 :: u207 :: u208 :: u209 :: u210 :: u211 :: u212 :: u213 :: u214 :: u215 :: u216 :: u217 :: u218 :: u219 :: u220 :: u221 :: u222 :: u223 :: u224 :: u225 :: []), []⟩ w') :
    (Code.loop (loopBody Try.f60 0)).wp Try.prog Q ⟨List.toArray (u0 :: u1 :: u2 :: u3 :: u4 :: (.slice (some ⟨gN, 0, none⟩) n n) :: (.int .i64 0) :: u7 :: u8 :: u9 :: u10 :: u11 :: u12 :: u13 :: u14 :: u15 :: u16 :: u17 :: u18 :: u19 :: u20 :: u21 :: u22 :: u23 :: u24 :: u25 :: u26 :: u27 :: u28 :: u29 :: u30 :: u31 :: u32 :: 
      u33 :: u34 :: u35 :: u36 :: u37 :: u38 :: u39 :: u40 :: u41 :: u42 :: u43 :: u44 :: u45 :: u46 :: u47 :: u48 :: u49 :: u50 :: u51 :: u52 :: u53 :: u54 :: u55 :: u56 :: u57 :: u58 :: u59 :: u60 :: u61 :: u62 :: u63 :: u64 :: u65 :: u66 :: u67 :: u68 :: u69 :: 
      u70 :: u71 :: u72 :: u73 :: u74 :: u75 :: u76 :: u77 :: u78 :: u79 :: u80 :: u81 :: u82 :: u83 :: u84 :: u85 :: u86 :: u87 :: u88 :: u89 :: u90 :: u91 :: u92 :: u93 :: u94 :: u95 :: u96 :: u97 :: u98 :: u99 :: u100 :: u101 :: u102 :: u103 :: u104 :: u105 :: 
      u106 :: u107 :: u108 :: u109 :: u110 :: u111 :: u112 :: u113 :: u114 :: u115 :: u116 :: u117 :: u118 :: u119 :: u120 :: u121 :: u122 :: u123 :: u124 :: u125 :: u126 :: u127 :: u128 :: u129 :: u130 :: u131 :: u132 :: u133 :: u134 :: u135 :: u136 :: u137 :: u138 :: 
      u139 :: u140 :: u141 :: u142 :: u143 :: u144 :: u145 :: u146 :: u147 :: u148 :: u149 :: u150 :: u151 :: u152 :: u153 :: u154 :: u155 :: u156 :: u157 :: u158 :: u159 :: u160 :: u161 :: u162 :: u163 :: u164 :: u165 :: u166 :: u167 :: u168 :: u169 :: u170 :: u171 :: 
      u172 :: u173 :: u174 :: u175 :: u176 :: u177 :: u178 :: u179 :: u180 :: u181 :: u182 :: u183 :: u184 :: u185 :: u186 :: u187 :: u188 :: u189 :: u190 :: u191 :: u192 :: u193 :: u194 :: u195 :: u196 :: u197 :: u198 :: u199 :: u200 :: u201 :: u202 :: u203 :: u204 :: 
      u205 :: u206 :: u207 :: u208 :: u209 :: u210 :: u211 :: u212 :: u213 :: u214 :: u215 :: u216 :: u217 :: u218 :: u219 :: u220 :: u221 :: u222 :: u223 :: u224 :: u225 :: []), []⟩ w := by
  conv => arg 2; arg 1; whnf
  go_loopw [6] (fun ii wr => ∃ (i : Nat), ii = .int .i64 (i : Int) ∧ i ≤ n ∧ Below wB.heap.size wB wr ∧ Hid (Blk wr gN 3 (rangeC n fun j => .int .i64 (if j < i then -1 else 0)))) (fun ii _ => n - (intOf ii).toNat)
  case atStart => exact ⟨0, rfl, Nat.zero_le _, hB, hR⟩
  case round =>
    obtain ⟨i, rfl, hi, hB', hR'⟩ := hrel
    by_cases hlt : i < n
    · have hc : wr.cell? ⟨gN, i, none⟩ = some (.int .i64 0) := by rw [hR'.out.cell, rangeC_get _ hlt, if_neg (by omega)]
      have hf := hR'.out.frozen i
      have hl := hR'.out.lt
      go_wp2_with fail
      refine ⟨⟨i + 1, by go_num, by omega, hB'.setCell (by omega) _, ?_⟩, by simp [intOf]; omega⟩
      have := hR'.out.set_ i (.int .i64 (-1))
      rw [rangeC_set] at this
      refine Eq.mp (congrArg (Blk _ gN 3) (rangeC_congr fun j _ => ?_)) this
      by_cases e : j = i
      · rw [if_pos e, if_pos (by omega)]
      · rw [if_neg e]
        by_cases e2 : j < i
        · rw [if_pos e2, if_pos (by omega)]
        · rw [if_neg e2, if_neg (by omega)]
    · obtain rfl : i = n := by omega
      go_wp2_with fail
      refine hQ _ _ _ _ _ _ _ _ _ _ wr hB' ?_
      refine Eq.mp (congrArg (Blk _ gN 3) (rangeC_congr fun j hj => ?_)) hR'.out
      rw [if_pos hj]

/-- The classes that have been found, in memory. -/
structure CanS (wB wr : World) (n gN : Nat) (vo : Value) (cl od : List Nat) : Prop where
  below : Below wB.heap.size wB wr
  num : Blk wr gN 3 (rangeC n fun c => .int .i64 (numF (od.map (clN' cl)) c))
  ord : wr.ownsRow (gN + 1) 3 1 vo od.length (od.map encN)
  hN : wB.heap.size ≤ gN
section
variable {wB wr w3 : World} {n gN s : Nat} {vo v' : Value} {cl od : List Nat}
theorem CanS.call (h : CanS wB wr n gN vo cl od) (hb : Below wr.heap.size wr w3) : CanS wB w3 n gN vo cl od :=
  ⟨h.below.trans (hb.mono h.below.size), h.num.below hb, (Kept.of_below hb (fun _ => False)).ownsRow h.ord (fun _ _ => id), h.hN⟩
theorem CanS.drew (h : CanS wB wr n gN vo cl od) : CanS wB wr.drew n gN vo cl od := h.call (drew_below wr)
theorem CanS.cellOld (h : CanS wB wr n gN vo cl od) {c : Nat} (hc : c < n) (hm : c ∈ od.map (clN' cl)) : wr.cell? ⟨gN, c, none⟩ = some (.int .i64 (numL (od.map (clN' cl)) c : Int)) := by
  rw [h.num.cell, rangeC_get _ hc, numF_old hm]
theorem CanS.cellNew (h : CanS wB wr n gN vo cl od) {c : Nat} (hc : c < n) (hm : c ∉ od.map (clN' cl)) : wr.cell? ⟨gN, c, none⟩ = some (.int .i64 (-1)) := by
  rw [h.num.cell, rangeC_get _ hc, numF_no hm]
theorem CanS.add (h : CanS wB wr n gN vo cl od) (hm : clN' cl s ∉ od.map (clN' cl)) (hk : Kept (wr.setCell ⟨gN, clN' cl s, none⟩ (.int .i64 (od.length : Int))) w3 (fun k => vo.ownBlock = some k))
    (ho : w3.ownsRow (gN + 1) 3 1 v' (od.length + 1) (od.map encN ++ [encN s])) : CanS wB w3 n gN v' cl (od ++ [s]) := by
  have hks : Kept wr (wr.setCell ⟨gN, clN' cl s, none⟩ (.int .i64 (od.length : Int))) (fun k => k = gN) := (Kept.refl wr (fun k => k = gN)).setCell (p := ⟨gN, clN' cl s, none⟩) (fun _ => rfl) _
  have h1 := h.hN
  have h2 := h.below.size
  refine ⟨(h.below.trans (hks.below h2 fun b hb e => by omega)).trans (hk.below (by have := hks.size; omega) fun b hb e => by have := own_base h.ord e; omega), ?_, by simpa using ho, h1⟩
  have := h.num.set_ (clN' cl s) (.int .i64 (od.length : Int))
  rw [rangeC_set] at this
  have h3 := this.kept hk (fun e => by have := own_base h.ord e; omega)
  refine Eq.mp (congrArg (Blk _ gN 3) (rangeC_congr fun j _ => ?_)) h3
  rw [map_add, numF_new hm, List.length_map]
  split <;> rfl
/-- The order behind the store of a number. -/
theorem CanS.ordSet (h : CanS wB wr n gN vo cl od) (c : Nat) (u : Value) : (wr.setCell ⟨gN, c, none⟩ u).ownsRow (gN + 1) 3 1 vo od.length (od.map encN) :=
  ((Kept.refl wr (fun k => k = gN)).setCell (p := ⟨gN, c, none⟩) (fun _ => rfl) u).ownsRow h.ord fun b hb e => by have := own_base h.ord hb; omega
end

set_option maxHeartbeats 8000000 in
set_option maxRecDepth 100000 in
theorem can_leaves {wB w : World} {g1 L gC gN : Nat} {vl vb va : Value} {lf cl : List Nat} {t : List (List (List Nat))} {ac : List Bool} (hX : RclX wB g1 L ac.length gC vl vb va (mleaf lf) (mbr t) (macc ac) cl) (hok : MOK L ac lf t) (hcl : ∀ i, i < ac.length → clN' cl i < ac.length) (hn : ac.length ≤ 20000) (hL : L ≤ 8)
    (hS : CanS wB w ac.length gN (.slice none 0 0) cl [])
    {u0 u2 u4 u6 u9 u10 u11 u12 u13 u14 u15 u16 u17 u18 u19 u20 u21 u22 u23 u24 u25 u26 u27 u28 u29 u30 u31 u32 u33 u34 u35 u36 u37 u38 u39 u40 u41 u42 u43 u44 u45 u46 u47 u48 u49 u50 u51 u52 u53 u54 u55 u56 u57 u58 u59 u60 u61 u62 u63 u64 u65 u66 u67 u68 u69 u70 u71 u72 u73 u74 u75 u76 u77 u78 u79 u80 u81 u82 u83 u84 u85 u86 u87 u88 u89 u90 u91 u92 u93 u94 u95 u96 u97 u98 u99 u100 u101 u102 u103 u104 u105 u106 u107 u108 u109 u110 u111 u112 u113 u114 u115 u116 u117 u118 u119 u120 u121 u122 u123 u124 u125 u126 u127 u128 u129 u130 u131 u132 u133 u134 u135 u136 u137 u138 u139 u140 u141 u142 u143 u144 u145 u146 u147 u148 u149 u150 u151 u152 u153 u154 u155 u156 u157 u158 u159 u160 u161 u162 u163 u164 u165 u166 u167 u168 u169 u170 u171 u172 u173 u174 u175 u176 u177 u178 u179 u180 u181 u182 u183 u184 u185 u186 u187 u188 u189 u190 u191 u192 u193 u194 u195 u196 u197 u198 u199 u200 u201 u202 u203 u204 u205 u206 u207 u208 u209 u210 u211 u212 u213 u214 u215 u216 u217 u218 u219 u220 u221 u222 u223 u224 u225 : Value}
    {Q : Exit → Act → World → Prop}
    (hQ : ∀ (x8 x36 x37 x38 x39 x40 x41 x42 x43 x44 x45 x46 x47 x48 x49 x50 x51 x52 x53 x54 x55 x56 x57 x58 x59 x60 x61 x62 x63 x64 x65 x66 x67 x68 x69 x70 x71 x72 x73 : Value) (w' : World) (vo : Value) (od : List Nat), CanS wB w' ac.length gN vo cl od → OdS ac.length cl od → od.map (clN' cl) = leafL L (cLeaf cl lf) →
      Q (.exit 2) ⟨List.toArray (u0 :: (.pointer (some ⟨g1, 0, none⟩)) :: u2 :: (.slice (some ⟨gC, 0, none⟩) ac.length ac.length) :: u4 :: (.slice (some ⟨gN, 0, none⟩) ac.length ac.length) :: u6 :: vo :: x8 :: u9 :: u10 :: u11 :: u12 :: u13 :: u14 :: u15 :: u16 :: u17 :: u18 :: u19 :: u20 :: 
      u21 :: u22 :: u23 :: u24 :: u25 :: u26 :: u27 :: u28 :: u29 :: u30 :: u31 :: u32 :: u33 :: u34 :: u35 :: x36 :: x37 :: x38 :: x39 :: x40 :: x41 :: x42 :: x43 :: x44 :: x45 :: x46 :: x47 :: x48 :: x49 :: x50 :: x51 :: x52 :: x53 :: x54 :: x55 :: x56 :: x57 :: 
      x58 :: x59 :: x60 :: x61 :: x62 :: x63 :: x64 :: x65 :: x66 :: x67 :: x68 :: x69 :: x70 :: x71 :: x72 :: x73 :: u74 :: u75 :: u76 :: u77 :: u78 :: u79 :: u80 :: u81 :: u82 :: u83 :: u84 :: u85 :: u86 :: u87 :: u88 :: u89 :: u90 :: u91 :: u92 :: u93 :: u94 :: 
      u95 :: u96 :: u97 :: u98 :: u99 :: u100 :: u101 :: u102 :: u103 :: u104 :: u105 :: u106 :: u107 :: u108 :: u109 :: u110 :: u111 :: u112 :: u113 :: u114 :: u115 :: u116 :: u117 :: u118 :: u119 :: u120 :: u121 :: u122 :: u123 :: u124 :: u125 :: u126 :: u127 :: 
      u128 :: u129 :: u130 :: u131 :: u132 :: u133 :: u134 :: u135 :: u136 :: u137 :: u138 :: u139 :: u140 :: u141 :: u142 :: u143 :: u144 :: u145 :: u146 :: u147 :: u148 :: u149 :: u150 :: u151 :: u152 :: u153 :: u154 :: u155 :: u156 :: u157 :: u158 :: u159 :: u160 :: 
      u161 :: u162 :: u163 :: u164 :: u165 :: u166 :: u167 :: u168 :: u169 :: u170 :: u171 :: u172 :: u173 :: u174 :: u175 :: u176 :: u177 :: u178 :: u179 :: u180 :: u181 :: u182 :: u183 :: u184 :: u185 :: u186 :: u187 :: u188 :: u189 :: u190 :: u191 :: u192 :: u193 :: 
      u194 :: u195 :: u196 :: u197 :: u198 :: u199 :: u200 :: u201 :: u202 :: u203 :: u204 :: u205 :: u206 :: u207 :: u208 :: u209 :: u210 :: u211 :: u212 :: u213 :: u214 :: u215 :: u216 :: u217 :: u218 :: u219 :: u220 :: u221 :: u222 :: u223 :: u224 :: u225 :: []), []⟩ w') :
    (Code.loop (loopBody Try.f60 1)).wp Try.prog Q ⟨List.toArray (u0 :: (.pointer (some ⟨g1, 0, none⟩)) :: u2 :: (.slice (some ⟨gC, 0, none⟩) ac.length ac.length) :: u4 :: (.slice (some ⟨gN, 0, none⟩) ac.length ac.length) :: u6 :: (.slice none 0 0) :: (.int .i64 0) :: u9 :: u10 :: u11 :: u12 :: u13 :: u14 :: u15 :: u16 :: 
      u17 :: u18 :: u19 :: u20 :: u21 :: u22 :: u23 :: u24 :: u25 :: u26 :: u27 :: u28 :: u29 :: u30 :: u31 :: u32 :: u33 :: u34 :: u35 :: u36 :: u37 :: u38 :: u39 :: u40 :: u41 :: u42 :: u43 :: u44 :: u45 :: u46 :: u47 :: u48 :: u49 :: u50 :: u51 :: u52 :: u53 :: 
      u54 :: u55 :: u56 :: u57 :: u58 :: u59 :: u60 :: u61 :: u62 :: u63 :: u64 :: u65 :: u66 :: u67 :: u68 :: u69 :: u70 :: u71 :: u72 :: u73 :: u74 :: u75 :: u76 :: u77 :: u78 :: u79 :: u80 :: u81 :: u82 :: u83 :: u84 :: u85 :: u86 :: u87 :: u88 :: u89 :: u90 :: 
      u91 :: u92 :: u93 :: u94 :: u95 :: u96 :: u97 :: u98 :: u99 :: u100 :: u101 :: u102 :: u103 :: u104 :: u105 :: u106 :: u107 :: u108 :: u109 :: u110 :: u111 :: u112 :: u113 :: u114 :: u115 :: u116 :: u117 :: u118 :: u119 :: u120 :: u121 :: u122 :: u123 :: u124 :: 
      u125 :: u126 :: u127 :: u128 :: u129 :: u130 :: u131 :: u132 :: u133 :: u134 :: u135 :: u136 :: u137 :: u138 :: u139 :: u140 :: u141 :: u142 :: u143 :: u144 :: u145 :: u146 :: u147 :: u148 :: u149 :: u150 :: u151 :: u152 :: u153 :: u154 :: u155 :: u156 :: u157 :: 
      u158 :: u159 :: u160 :: u161 :: u162 :: u163 :: u164 :: u165 :: u166 :: u167 :: u168 :: u169 :: u170 :: u171 :: u172 :: u173 :: u174 :: u175 :: u176 :: u177 :: u178 :: u179 :: u180 :: u181 :: u182 :: u183 :: u184 :: u185 :: u186 :: u187 :: u188 :: u189 :: u190 :: 
      u191 :: u192 :: u193 :: u194 :: u195 :: u196 :: u197 :: u198 :: u199 :: u200 :: u201 :: u202 :: u203 :: u204 :: u205 :: u206 :: u207 :: u208 :: u209 :: u210 :: u211 :: u212 :: u213 :: u214 :: u215 :: u216 :: u217 :: u218 :: u219 :: u220 :: u221 :: u222 :: u223 :: 
      u224 :: u225 :: []), []⟩ w := by
  conv => arg 2; arg 1; whnf
  have hokH := hide hok
  have hclH := hide hcl
  clear hok hcl
  obtain ⟨gl, cvl, rfl, hlf⟩ := hX.t.leaf
  have hlfH := hide hlf
  clear hlf
  go_loopw [7, 8] (fun oo xx wr => ∃ (x : Nat) (od : List Nat), xx = .int .i64 (x : Int) ∧ x ≤ L ∧ CanS wB wr ac.length gN oo cl od ∧ Hid (OdS ac.length cl od) ∧
    Hid (od.map (clN' cl) = (List.range x).foldl (fun l x => meetL l (cLeaf cl lf x)) [])) (fun _ xx _ => L - (intOf xx).toNat)
  case atStart => exact ⟨0, [], rfl, Nat.zero_le _, hS, OdS.nil _ _, rfl⟩
  case round =>
    obtain ⟨x, od, rfl, hx, hS', hO, hE⟩ := hrel
    obtain ⟨Ao, co, rfl⟩ := slice_of_own hS'.ord
    have hc1 := (hX.at hS'.below).b.cell
    have hol := hO.out.len hclH.out
    by_cases hlt : x < L
    · have hcl1 := (hS'.below.cell (cell_lt' (hlfH.out x hlt))).trans (hlfH.out x hlt)
      have hsn := hokH.out.isM.leaf_lt x hlt
      have hcc : Hid (cLeaf cl lf x = clN' cl (mleaf lf x)) := rfl
      obtain ⟨s, hs⟩ : ∃ s, mleaf lf x = s := ⟨_, rfl⟩
      rw [hs] at hcl1 hsn hcc
      have hcs := (hS'.below.cell (cell_lt' (hX.cell hsn))).trans (hX.cell hsn)
      have hcn := hclH.out s hsn
      have hsnc := hide (range_snoc (fun l x => meetL l (cLeaf cl lf x)) [] x)
      have hSH := hide hS'
      clear hs
      by_cases hm : clN' cl s ∈ od.map (clN' cl)
      · have hcN := hS'.cellOld hcn hm
        have hme := hide (meet_old hm)
        obtain ⟨c, hc⟩ : ∃ c, clN' cl s = c := ⟨_, rfl⟩
        have hcH := hide hc
        rw [hc] at hcs hcn hcN
        obtain ⟨K, hK⟩ : ∃ K, numL (od.map (clN' cl)) c = K := ⟨_, rfl⟩
        rw [hK] at hcN
        clear hc hK hm hS'
        go_wp2_with fail
        refine ⟨⟨x + 1, od, by go_num, by omega, hSH.out, hO.out, ?_⟩, by simp [intOf]; omega⟩
        show _ = _
        rw [hsnc.out, ← hE.out, hcc.out, hme.out]
      · have hcN := hS'.cellNew hcn hm
        have hfN := hS'.num.frozen (clN' cl s)
        have hlN := hS'.num.lt
        have hme := hide (meet_new hm)
        have hmH := hide hm
        have hoo := hS'.ordSet (clN' cl s) (.int .i64 (od.length : Int))
        have hs1 : gN + 1 ≤ (wr.setCell ⟨gN, clN' cl s, none⟩ (.int .i64 (od.length : Int))).heap.size := by simp [World.setCell]; exact hlN
        have hadd := hide (fun (v' : Value) (w3 : World) => hS'.add (w3 := w3) (v' := v') (s := s) hm)
        have hgl3 : gl < wB.heap.size := cell_lt' (hlfH.out x hlt)
        have hg1 := hX.b.lt
        have hgC := hX.c.lt
        have hgN := hS'.hN
        obtain ⟨c, hc⟩ : ∃ c, clN' cl s = c := ⟨_, rfl⟩
        have hcH := hide hc
        have hadd' := hadd.out
        rw [hc] at hcs hcn hcN hfN hoo hs1 hadd'
        obtain ⟨w1, hw1⟩ : ∃ w1, wr.setCell ⟨gN, c, none⟩ (.int .i64 (od.length : Int)) = w1 := ⟨_, rfl⟩
        have hks1 : Kept wr w1 (fun k => k = gN) := hw1 ▸ (Kept.refl wr (fun k => k = gN)).setCell (p := ⟨gN, c, none⟩) (fun _ => rfl) _
        rw [hw1] at hoo hs1 hadd'
        have hc1' := ((hX.at hSH.out.below).b.kept hks1 (by omega)).cell
        have hcl1' := (hks1.cell (p := ⟨gl, x, none⟩) (cell_lt' hcl1) (by show ¬ gl = gN; omega)).trans hcl1
        have hooH := hide hoo
        have haddH := hide hadd'
        clear hc hm hS' hoo hadd' hadd
        go_wp2_with (at_builtin; refine wpList_app_new row22 rfl _ _ rfl (gN + 1) (.slice Ao od.length co) od.length _ rfl hooH.out [.int .i64 (s : Int)] 1 rfl rfl (by simp [Value.oneCell']) (by omega) hs1 ?_; intro g5 cap5 w5 hown5 hk5 hmv5 hg5
                     have hSS5 := hide (haddH.out _ _ hk5 hown5)
                     clear hk5 hown5 hmv5 hg5)
        refine ⟨⟨x + 1, od ++ [s], by go_num, by omega, by simpa using hSS5.out, hO.out.add hsn hmH.out, ?_⟩, by simp [intOf]; omega⟩
        show _ = _
        rw [hsnc.out, ← hE.out, hcc.out, hme.out, map_add]
    · obtain rfl : x = L := by omega
      have hSH := hide hS'
      clear hS'
      go_wp2_with fail
      exact hQ _ _ _ _ _ _ _ _ _ _ _ _ _ _ _ _ _ _ _ _ _ _ _ _ _ _ _ _ _ _ _ _ _ _ _ _ _ _ _ wr _ od hSH.out hO.out hE.out
end Go.Proofs.Ytnimlcbgeiajiaa

namespace Go.Proofs.Ytnimlcbgeiajiaa
open Go.RowKit

/-- What is known of the table and its classes. -/
structure CanC (L : Nat) (ac : List Bool) (lf cl so : List Nat) (t : List (List (List Nat))) : Prop where
  ok : MOK L ac lf t
  d : ClsD L ac.length (mbr t) (macc ac) (-1) cl
  r : Rep ac.length cl so
theorem CanC.lt {L : Nat} {ac : List Bool} {lf cl so : List Nat} {t : List (List (List Nat))} (h : CanC L ac lf cl so t) : ∀ i, i < ac.length → clN' cl i < ac.length := h.d.lt

set_option maxHeartbeats 8000000 in
set_option maxRecDepth 100000 in
theorem can_k {wB w : World} {g1 L gC gN x i p : Nat} {vl vb va vo : Value} {lf cl so od0 od : List Nat} {t : List (List (List Nat))} {ac : List Bool} (hX : RclX wB g1 L ac.length gC vl vb va (mleaf lf) (mbr t) (macc ac) cl) (hC : CanC L ac lf cl so t) (hn : ac.length ≤ 20000) (hx : x < L)
    (hS : CanS wB w ac.length gN vo cl od) (hO : OdS ac.length cl od) (hpre : od0 <+: od) (hi : od0[i]? = some p)
    {u0 u2 u4 u6 u8 u9 u14 u15 u16 u17 u18 u19 u20 u21 u22 u23 u24 u25 u26 u27 u28 u29 u30 u31 u32 u33 u34 u35 u36 u37 u38 u39 u40 u41 u42 u43 u44 u45 u46 u47 u48 u49 u50 u51 u52 u53 u54 u55 u56 u57 u58 u59 u60 u61 u62 u63 u64 u65 u66 u67 u68 u69 u70 u71 u72 u73 u74 u75 u76 u77 u78 u79 u80 u81 u82 u83 u84 u85 u86 u87 u88 u89 u90 u91 u92 u93 u94 u95 u96 u97 u98 u99 u100 u101 u102 u103 u104 u105 u106 u107 u108 u109 u110 u111 u112 u113 u114 u115 u116 u117 u118 u119 u120 u121 u122 u123 u124 u125 u126 u127 u128 u129 u130 u131 u132 u133 u134 u135 u136 u137 u138 u139 u140 u141 u142 u143 u144 u145 u146 u147 u148 u149 u150 u151 u152 u153 u154 u155 u156 u157 u158 u159 u160 u161 u162 u163 u164 u165 u166 u167 u168 u169 u170 u171 u172 u173 u174 u175 u176 u177 u178 u179 u180 u181 u182 u183 u184 u185 u186 u187 u188 u189 u190 u191 u192 u193 u194 u195 u196 u197 u198 u199 u200 u201 u202 u203 u204 u205 u206 u207 u208 u209 u210 u211 u212 u213 u214 u215 u216 u217 u218 u219 u220 u221 u222 u223 u224 u225 : Value}
    {Q : Exit → Act → World → Prop} (hN : Reg.NoQ Q)
    (hQ : ∀ (x13 x14 x92 x93 x94 x95 x96 x97 x98 x99 x100 x101 x102 x103 x104 x105 x106 x107 x108 x109 x110 x111 x112 x113 x114 x115 x116 x117 x118 x119 x120 x121 x122 x123 x124 x125 x126 x127 x128 x129 x130 x131 x132 x133 : Value) (w' : World) (vo' : Value) (od' : List Nat), CanS wB w' ac.length gN vo' cl od' → OdS ac.length cl od' → od0 <+: od' → od'.map (clN' cl) = stepB (cBr cl so t) x (od0.map (clN' cl)) (clN' cl p) (od.map (clN' cl)) →
      Q (.exit 10) ⟨List.toArray (u0 :: (.pointer (some ⟨g1, 0, none⟩)) :: u2 :: (.slice (some ⟨gC, 0, none⟩) ac.length ac.length) :: u4 :: (.slice (some ⟨gN, 0, none⟩) ac.length ac.length) :: u6 :: vo' :: u8 :: u9 :: (.int .i64 od0.length) :: (.int .i64 x) :: (.int .i64 i) :: x13 :: x14 :: 
      u15 :: u16 :: u17 :: u18 :: u19 :: u20 :: u21 :: u22 :: u23 :: u24 :: u25 :: u26 :: u27 :: u28 :: u29 :: u30 :: u31 :: u32 :: u33 :: u34 :: u35 :: u36 :: u37 :: u38 :: u39 :: u40 :: u41 :: u42 :: u43 :: u44 :: u45 :: u46 :: u47 :: u48 :: u49 :: u50 :: u51 :: 
      u52 :: u53 :: u54 :: u55 :: u56 :: u57 :: u58 :: u59 :: u60 :: u61 :: u62 :: u63 :: u64 :: u65 :: u66 :: u67 :: u68 :: u69 :: u70 :: u71 :: u72 :: u73 :: u74 :: u75 :: u76 :: u77 :: u78 :: u79 :: u80 :: u81 :: u82 :: u83 :: u84 :: u85 :: u86 :: u87 :: u88 :: 
      u89 :: u90 :: u91 :: x92 :: x93 :: x94 :: x95 :: x96 :: x97 :: x98 :: x99 :: x100 :: x101 :: x102 :: x103 :: x104 :: x105 :: x106 :: x107 :: x108 :: x109 :: x110 :: x111 :: x112 :: x113 :: x114 :: x115 :: x116 :: x117 :: x118 :: x119 :: x120 :: x121 :: x122 :: 
      x123 :: x124 :: x125 :: x126 :: x127 :: x128 :: x129 :: x130 :: x131 :: x132 :: x133 :: u134 :: u135 :: u136 :: u137 :: u138 :: u139 :: u140 :: u141 :: u142 :: u143 :: u144 :: u145 :: u146 :: u147 :: u148 :: u149 :: u150 :: u151 :: u152 :: u153 :: u154 :: u155 :: 
      u156 :: u157 :: u158 :: u159 :: u160 :: u161 :: u162 :: u163 :: u164 :: u165 :: u166 :: u167 :: u168 :: u169 :: u170 :: u171 :: u172 :: u173 :: u174 :: u175 :: u176 :: u177 :: u178 :: u179 :: u180 :: u181 :: u182 :: u183 :: u184 :: u185 :: u186 :: u187 :: u188 :: 
      u189 :: u190 :: u191 :: u192 :: u193 :: u194 :: u195 :: u196 :: u197 :: u198 :: u199 :: u200 :: u201 :: u202 :: u203 :: u204 :: u205 :: u206 :: u207 :: u208 :: u209 :: u210 :: u211 :: u212 :: u213 :: u214 :: u215 :: u216 :: u217 :: u218 :: u219 :: u220 :: u221 :: 
      u222 :: u223 :: u224 :: u225 :: []), []⟩ w') :
    (Code.loop (loopBody Try.f60 5)).wp Try.prog Q ⟨List.toArray (u0 :: (.pointer (some ⟨g1, 0, none⟩)) :: u2 :: (.slice (some ⟨gC, 0, none⟩) ac.length ac.length) :: u4 :: (.slice (some ⟨gN, 0, none⟩) ac.length ac.length) :: u6 :: vo :: u8 :: u9 :: (.int .i64 od0.length) :: (.int .i64 x) :: (.int .i64 i) :: (.int .i64 0) :: 
      u14 :: u15 :: u16 :: u17 :: u18 :: u19 :: u20 :: u21 :: u22 :: u23 :: u24 :: u25 :: u26 :: u27 :: u28 :: u29 :: u30 :: u31 :: u32 :: u33 :: u34 :: u35 :: u36 :: u37 :: u38 :: u39 :: u40 :: u41 :: u42 :: u43 :: u44 :: u45 :: u46 :: u47 :: u48 :: u49 :: u50 :: 
      u51 :: u52 :: u53 :: u54 :: u55 :: u56 :: u57 :: u58 :: u59 :: u60 :: u61 :: u62 :: u63 :: u64 :: u65 :: u66 :: u67 :: u68 :: u69 :: u70 :: u71 :: u72 :: u73 :: u74 :: u75 :: u76 :: u77 :: u78 :: u79 :: u80 :: u81 :: u82 :: u83 :: u84 :: u85 :: u86 :: u87 :: 
      u88 :: u89 :: u90 :: u91 :: u92 :: u93 :: u94 :: u95 :: u96 :: u97 :: u98 :: u99 :: u100 :: u101 :: u102 :: u103 :: u104 :: u105 :: u106 :: u107 :: u108 :: u109 :: u110 :: u111 :: u112 :: u113 :: u114 :: u115 :: u116 :: u117 :: u118 :: u119 :: u120 :: u121 :: 
      u122 :: u123 :: u124 :: u125 :: u126 :: u127 :: u128 :: u129 :: u130 :: u131 :: u132 :: u133 :: u134 :: u135 :: u136 :: u137 :: u138 :: u139 :: u140 :: u141 :: u142 :: u143 :: u144 :: u145 :: u146 :: u147 :: u148 :: u149 :: u150 :: u151 :: u152 :: u153 :: u154 :: 
      u155 :: u156 :: u157 :: u158 :: u159 :: u160 :: u161 :: u162 :: u163 :: u164 :: u165 :: u166 :: u167 :: u168 :: u169 :: u170 :: u171 :: u172 :: u173 :: u174 :: u175 :: u176 :: u177 :: u178 :: u179 :: u180 :: u181 :: u182 :: u183 :: u184 :: u185 :: u186 :: u187 :: 
      u188 :: u189 :: u190 :: u191 :: u192 :: u193 :: u194 :: u195 :: u196 :: u197 :: u198 :: u199 :: u200 :: u201 :: u202 :: u203 :: u204 :: u205 :: u206 :: u207 :: u208 :: u209 :: u210 :: u211 :: u212 :: u213 :: u214 :: u215 :: u216 :: u217 :: u218 :: u219 :: u220 :: 
      u221 :: u222 :: u223 :: u224 :: u225 :: []), []⟩ w := by
  conv => arg 2; arg 1; whnf
  have hclH := hide hC.lt
  have hCH := hide hC
  have hi0 := lt_of_get hi
  have hiH := hide hi
  have hpre0 := hide hpre
  have hO0 := hide hO
  clear hi hpre hO hC
  obtain ⟨gv, cv, gi, ci, gj, cj, rfl, ht⟩ := hX.t.tab
  have htH := hide ht
  clear ht
  go_loopw [7, 13] (fun oo kk wr => ∃ (k : Nat) (od' : List Nat), kk = .int .i64 (k : Int) ∧ k ≤ od0.length ∧ CanS wB wr ac.length gN oo cl od' ∧ Hid (OdS ac.length cl od') ∧ Hid (od0 <+: od') ∧
    Hid (od'.map (clN' cl) = ((od0.map (clN' cl)).take k).foldl (fun l b => meetL l (cBr cl so t x (clN' cl p) b)) (od.map (clN' cl)))) (fun _ kk _ => od0.length - (intOf kk).toNat)
  case atStart => exact ⟨0, od, rfl, Nat.zero_le _, hS, hO0.out, hpre0.out, rfl⟩
  case round =>
    obtain ⟨k, od', rfl, hk, hS', hO', hp', hE⟩ := hrel
    obtain ⟨Ao, co, rfl⟩ := slice_of_own hS'.ord
    have hol := hO'.out.len hclH.out
    by_cases hlt : k < od0.length
    · obtain ⟨q, hq⟩ := get_lt hlt
      have hip := prefix_get hp'.out hiH.out
      have hkq := prefix_get hp'.out hq
      have hil := lt_of_get hip
      have hkl := lt_of_get hkq
      have hpn := hO'.out.lt p (List.mem_of_getElem? hip)
      have hqn := hO'.out.lt q (List.mem_of_getElem? hkq)
      obtain ⟨go, co', hv, hcp⟩ := own_get hS'.ord (map_get (f := encN) hip)
      injection hv with hv _ hv3
      subst hv hv3
      have hcq := own_cell hS'.ord (map_get (f := encN) hkq)
      simp only [encN] at hcp hcq
      have hc1 := (hX.at hS'.below).b.cell
      have m1 := (hS'.below.cell (cell_lt' (htH.out x hx).1)).trans (htH.out x hx).1
      have m2 := (hS'.below.cell (cell_lt' ((htH.out x hx).2 p hpn).1)).trans ((htH.out x hx).2 p hpn).1
      have m3 := (hS'.below.cell (cell_lt' (((htH.out x hx).2 p hpn).2 q hqn))).trans (((htH.out x hx).2 p hpn).2 q hqn)
      have hsn := hCH.out.ok.isM.br_lt x p q hx hpn hqn
      have hcb := hide (cls_br hCH.out.ok hCH.out.d hCH.out.r hx hpn hqn)
      obtain ⟨s, hs⟩ : ∃ s, mbr t x p q = s := ⟨_, rfl⟩
      rw [hs] at m3 hsn
      have hcbs := hcb.out
      rw [hs] at hcbs
      have hcbH := hide hcbs
      have hcs := (hS'.below.cell (cell_lt' (hX.cell hsn))).trans (hX.cell hsn)
      have hcn := hclH.out s hsn
      have hsnc := hide (foldl_snoc (fun l b => meetL l (cBr cl so t x (clN' cl p) b)) (od.map (clN' cl)) (od0.map (clN' cl)) k _ (map_get (f := clN' cl) hq))
      have hSH := hide hS'
      have hSd := hide hS'.drew
      clear hs hcbs hcb hq hip hkq
      by_cases hm : clN' cl s ∈ od'.map (clN' cl)
      · have hcN := hS'.cellOld hcn hm
        have hme := hide (meet_old hm)
        obtain ⟨c, hc⟩ : ∃ c, clN' cl s = c := ⟨_, rfl⟩
        have hcH := hide hc
        rw [hc] at hcs hcn hcN
        obtain ⟨K, hK⟩ : ∃ K, numL (od'.map (clN' cl)) c = K := ⟨_, rfl⟩
        rw [hK] at hcN
        clear hc hK hm hS'
        go_wp2_with fail
        refine Reg.region_plain [0, 1, 0, 7, 15, 0, 0, 96, 224, 511, 1023, 0, 0, 6144, 14336, 32767, 65535, 131071] (by kernel_rfl) (by repeat (first | exact hN | refine Reg.NoQ.then ?_ | refine Reg.NoQ.inBlock ?_)) ?_
        go_wp2_with fail
        refine ⟨⟨k + 1, od', by go_num, by omega, hSd.out, hO'.out, hp'.out, ?_⟩, by simp [intOf]; omega⟩
        show _ = _
        rw [hsnc.out, ← hE.out, ← hcbH.out, hme.out]
      · have hcN := hS'.cellNew hcn hm
        have hfN := hS'.num.frozen (clN' cl s)
        have hlN := hS'.num.lt
        have hme := hide (meet_new hm)
        have hmH := hide hm
        have hoo := hSd.out.ordSet (clN' cl s) (.int .i64 (od'.length : Int))
        have hs1 : gN + 1 ≤ (wr.drew.setCell ⟨gN, clN' cl s, none⟩ (.int .i64 (od'.length : Int))).heap.size := by
          have : wr.drew.heap.size = wr.heap.size := rfl
          simp only [World.setCell, Array.size_modify, this]; exact hlN
        have hadd := hide (fun (v' : Value) (w3 : World) => hSd.out.add (w3 := w3) (v' := v') (s := s) hm)
        have hg1 := hX.b.lt
        have hgC := hX.c.lt
        have hgN := hS'.hN
        obtain ⟨c, hc⟩ : ∃ c, clN' cl s = c := ⟨_, rfl⟩
        have hcH := hide hc
        have hadd' := hadd.out
        rw [hc] at hcs hcn hcN hfN hoo hs1 hadd'
        obtain ⟨w1, hw1⟩ : ∃ w1, wr.drew.setCell ⟨gN, c, none⟩ (.int .i64 (od'.length : Int)) = w1 := ⟨_, rfl⟩
        rw [hw1] at hoo hs1 hadd'
        have hooH := hide hoo
        have haddH := hide hadd'
        clear hc hm hS' hoo hadd' hadd
        go_wp2_with fail
        refine Reg.region_plain [0, 1, 0, 7, 15, 0, 0, 96, 224, 511, 1023, 0, 0, 6144, 14336, 32767, 65535, 131071] (by kernel_rfl) (by repeat (first | exact hN | refine Reg.NoQ.then ?_ | refine Reg.NoQ.inBlock ?_)) ?_
        go_wp2_with (at_builtin; refine wpList_app_new row22 rfl _ _ rfl (gN + 1) (.slice (some ⟨go, 0, none⟩) od'.length co) od'.length _ rfl hooH.out [.int .i64 (s : Int)] 1 rfl rfl (by simp [Value.oneCell']) (by omega) hs1 ?_; intro g5 cap5 w5 hown5 hk5 hmv5 hg5
                     have hSS5 := hide (haddH.out _ _ hk5 hown5)
                     clear hk5 hown5 hmv5 hg5)
        refine ⟨⟨k + 1, od' ++ [s], by go_num, by omega, by simpa using hSS5.out, hO'.out.add hsn hmH.out, hp'.out.trans (List.prefix_append _ _), ?_⟩, by simp [intOf]; omega⟩
        show _ = _
        rw [hsnc.out, ← hE.out, ← hcbH.out, hme.out, map_add]
    · have e : k = od0.length := by omega
      have h1 := hE.out
      rw [e, List.take_of_length_le (by simp)] at h1
      have h2 := hide h1
      have he := hide e
      have hSH := hide hS'
      clear e h1 hS'
      go_wp2_with fail
      exact hQ _ _ _ _ _ _ _ _ _ _ _ _ _ _ _ _ _ _ _ _ _ _ _ _ _ _ _ _ _ _ _ _ _ _ _ _ _ _ _ _ _ _ _ _ wr _ od' hSH.out hO'.out hp'.out h2.out
end Go.Proofs.Ytnimlcbgeiajiaa

namespace Go.Proofs.Ytnimlcbgeiajiaa
open Go.RowKit

set_option maxHeartbeats 8000000 in
set_option maxRecDepth 100000 in
theorem can_i {wB w : World} {g1 L gC gN x : Nat} {vl vb va vo : Value} {lf cl so od0 od : List Nat} {t : List (List (List Nat))} {ac : List Bool} (hX : RclX wB g1 L ac.length gC vl vb va (mleaf lf) (mbr t) (macc ac) cl) (hC : CanC L ac lf cl so t) (hn : ac.length ≤ 20000) (hx : x < L) (hod0 : od0.length ≤ ac.length)
    (hS : CanS wB w ac.length gN vo cl od) (hO : OdS ac.length cl od) (hpre : od0 <+: od)
    {u0 u2 u4 u6 u8 u9 u13 u14 u15 u16 u17 u18 u19 u20 u21 u22 u23 u24 u25 u26 u27 u28 u29 u30 u31 u32 u33 u34 u35 u36 u37 u38 u39 u40 u41 u42 u43 u44 u45 u46 u47 u48 u49 u50 u51 u52 u53 u54 u55 u56 u57 u58 u59 u60 u61 u62 u63 u64 u65 u66 u67 u68 u69 u70 u71 u72 u73 u74 u75 u76 u77 u78 u79 u80 u81 u82 u83 u84 u85 u86 u87 u88 u89 u90 u91 u92 u93 u94 u95 u96 u97 u98 u99 u100 u101 u102 u103 u104 u105 u106 u107 u108 u109 u110 u111 u112 u113 u114 u115 u116 u117 u118 u119 u120 u121 u122 u123 u124 u125 u126 u127 u128 u129 u130 u131 u132 u133 u134 u135 u136 u137 u138 u139 u140 u141 u142 u143 u144 u145 u146 u147 u148 u149 u150 u151 u152 u153 u154 u155 u156 u157 u158 u159 u160 u161 u162 u163 u164 u165 u166 u167 u168 u169 u170 u171 u172 u173 u174 u175 u176 u177 u178 u179 u180 u181 u182 u183 u184 u185 u186 u187 u188 u189 u190 u191 u192 u193 u194 u195 u196 u197 u198 u199 u200 u201 u202 u203 u204 u205 u206 u207 u208 u209 u210 u211 u212 u213 u214 u215 u216 u217 u218 u219 u220 u221 u222 u223 u224 u225 : Value}
    {Q : Exit → Act → World → Prop} (hN : Reg.NoQ Q)
    (hQ : ∀ (x12 x13 x14 x87 x88 x89 x90 x91 x92 x93 x94 x95 x96 x97 x98 x99 x100 x101 x102 x103 x104 x105 x106 x107 x108 x109 x110 x111 x112 x113 x114 x115 x116 x117 x118 x119 x120 x121 x122 x123 x124 x125 x126 x127 x128 x129 x130 x131 x132 x133 : Value) (w' : World) (vo' : Value) (od' : List Nat), CanS wB w' ac.length gN vo' cl od' → OdS ac.length cl od' → od0 <+: od' → od'.map (clN' cl) = stepA (cBr cl so t) (od0.map (clN' cl)) (od.map (clN' cl)) x →
      Q (.exit 8) ⟨List.toArray (u0 :: (.pointer (some ⟨g1, 0, none⟩)) :: u2 :: (.slice (some ⟨gC, 0, none⟩) ac.length ac.length) :: u4 :: (.slice (some ⟨gN, 0, none⟩) ac.length ac.length) :: u6 :: vo' :: u8 :: u9 :: (.int .i64 od0.length) :: (.int .i64 x) :: x12 :: x13 :: x14 :: u15 :: u16 :: 
      u17 :: u18 :: u19 :: u20 :: u21 :: u22 :: u23 :: u24 :: u25 :: u26 :: u27 :: u28 :: u29 :: u30 :: u31 :: u32 :: u33 :: u34 :: u35 :: u36 :: u37 :: u38 :: u39 :: u40 :: u41 :: u42 :: u43 :: u44 :: u45 :: u46 :: u47 :: u48 :: u49 :: u50 :: u51 :: u52 :: u53 :: 
      u54 :: u55 :: u56 :: u57 :: u58 :: u59 :: u60 :: u61 :: u62 :: u63 :: u64 :: u65 :: u66 :: u67 :: u68 :: u69 :: u70 :: u71 :: u72 :: u73 :: u74 :: u75 :: u76 :: u77 :: u78 :: u79 :: u80 :: u81 :: u82 :: u83 :: u84 :: u85 :: u86 :: x87 :: x88 :: x89 :: x90 :: 
      x91 :: x92 :: x93 :: x94 :: x95 :: x96 :: x97 :: x98 :: x99 :: x100 :: x101 :: x102 :: x103 :: x104 :: x105 :: x106 :: x107 :: x108 :: x109 :: x110 :: x111 :: x112 :: x113 :: x114 :: x115 :: x116 :: x117 :: x118 :: x119 :: x120 :: x121 :: x122 :: x123 :: x124 :: 
      x125 :: x126 :: x127 :: x128 :: x129 :: x130 :: x131 :: x132 :: x133 :: u134 :: u135 :: u136 :: u137 :: u138 :: u139 :: u140 :: u141 :: u142 :: u143 :: u144 :: u145 :: u146 :: u147 :: u148 :: u149 :: u150 :: u151 :: u152 :: u153 :: u154 :: u155 :: u156 :: u157 :: 
      u158 :: u159 :: u160 :: u161 :: u162 :: u163 :: u164 :: u165 :: u166 :: u167 :: u168 :: u169 :: u170 :: u171 :: u172 :: u173 :: u174 :: u175 :: u176 :: u177 :: u178 :: u179 :: u180 :: u181 :: u182 :: u183 :: u184 :: u185 :: u186 :: u187 :: u188 :: u189 :: u190 :: 
      u191 :: u192 :: u193 :: u194 :: u195 :: u196 :: u197 :: u198 :: u199 :: u200 :: u201 :: u202 :: u203 :: u204 :: u205 :: u206 :: u207 :: u208 :: u209 :: u210 :: u211 :: u212 :: u213 :: u214 :: u215 :: u216 :: u217 :: u218 :: u219 :: u220 :: u221 :: u222 :: u223 :: 
      u224 :: u225 :: []), []⟩ w') :
    (Code.loop (loopBody Try.f60 4)).wp Try.prog Q ⟨List.toArray (u0 :: (.pointer (some ⟨g1, 0, none⟩)) :: u2 :: (.slice (some ⟨gC, 0, none⟩) ac.length ac.length) :: u4 :: (.slice (some ⟨gN, 0, none⟩) ac.length ac.length) :: u6 :: vo :: u8 :: u9 :: (.int .i64 od0.length) :: (.int .i64 x) :: (.int .i64 0) :: u13 :: u14 :: u15 :: 
      u16 :: u17 :: u18 :: u19 :: u20 :: u21 :: u22 :: u23 :: u24 :: u25 :: u26 :: u27 :: u28 :: u29 :: u30 :: u31 :: u32 :: u33 :: u34 :: u35 :: u36 :: u37 :: u38 :: u39 :: u40 :: u41 :: u42 :: u43 :: u44 :: u45 :: u46 :: u47 :: u48 :: u49 :: u50 :: u51 :: u52 :: 
      u53 :: u54 :: u55 :: u56 :: u57 :: u58 :: u59 :: u60 :: u61 :: u62 :: u63 :: u64 :: u65 :: u66 :: u67 :: u68 :: u69 :: u70 :: u71 :: u72 :: u73 :: u74 :: u75 :: u76 :: u77 :: u78 :: u79 :: u80 :: u81 :: u82 :: u83 :: u84 :: u85 :: u86 :: u87 :: u88 :: u89 :: 
      u90 :: u91 :: u92 :: u93 :: u94 :: u95 :: u96 :: u97 :: u98 :: u99 :: u100 :: u101 :: u102 :: u103 :: u104 :: u105 :: u106 :: u107 :: u108 :: u109 :: u110 :: u111 :: u112 :: u113 :: u114 :: u115 :: u116 :: u117 :: u118 :: u119 :: u120 :: u121 :: u122 :: u123 :: 
      u124 :: u125 :: u126 :: u127 :: u128 :: u129 :: u130 :: u131 :: u132 :: u133 :: u134 :: u135 :: u136 :: u137 :: u138 :: u139 :: u140 :: u141 :: u142 :: u143 :: u144 :: u145 :: u146 :: u147 :: u148 :: u149 :: u150 :: u151 :: u152 :: u153 :: u154 :: u155 :: u156 :: 
      u157 :: u158 :: u159 :: u160 :: u161 :: u162 :: u163 :: u164 :: u165 :: u166 :: u167 :: u168 :: u169 :: u170 :: u171 :: u172 :: u173 :: u174 :: u175 :: u176 :: u177 :: u178 :: u179 :: u180 :: u181 :: u182 :: u183 :: u184 :: u185 :: u186 :: u187 :: u188 :: u189 :: 
      u190 :: u191 :: u192 :: u193 :: u194 :: u195 :: u196 :: u197 :: u198 :: u199 :: u200 :: u201 :: u202 :: u203 :: u204 :: u205 :: u206 :: u207 :: u208 :: u209 :: u210 :: u211 :: u212 :: u213 :: u214 :: u215 :: u216 :: u217 :: u218 :: u219 :: u220 :: u221 :: u222 :: 
      u223 :: u224 :: u225 :: []), []⟩ w := by
  conv => arg 2; arg 1; whnf
  have hCH := hide hC
  have hpre0 := hide hpre
  have hO0 := hide hO
  clear hpre hO hC
  go_loopw [7, 12] (fun oo ii wr => ∃ (i : Nat) (od' : List Nat), ii = .int .i64 (i : Int) ∧ i ≤ od0.length ∧ CanS wB wr ac.length gN oo cl od' ∧ Hid (OdS ac.length cl od') ∧ Hid (od0 <+: od') ∧
    Hid (od'.map (clN' cl) = ((od0.map (clN' cl)).take i).foldl (fun l a => stepB (cBr cl so t) x (od0.map (clN' cl)) a l) (od.map (clN' cl)))) (fun _ ii _ => od0.length - (intOf ii).toNat)
  case atStart => exact ⟨0, od, rfl, Nat.zero_le _, hS, hO0.out, hpre0.out, rfl⟩
  case round =>
    obtain ⟨i, od', rfl, hi, hS', hO', hp', hE⟩ := hrel
    have hSH := hide hS'
    clear hS'
    by_cases hlt : i < od0.length
    · obtain ⟨p, hp⟩ := get_lt hlt
      have hpH := hide hp
      have hsnc := hide (foldl_snoc (fun l a => stepB (cBr cl so t) x (od0.map (clN' cl)) a l) (od.map (clN' cl)) (od0.map (clN' cl)) i _ (map_get (f := clN' cl) hp))
      clear hp
      go_wp2_with fail
      refine can_k hX hCH.out hn hx hSH.out hO'.out hp'.out hpH.out ?_ ?_
      · repeat (first | exact hN | refine Reg.NoQ.then ?_ | refine Reg.NoQ.inBlock ?_)
      · iterate 44 (intro _)
        intro w3 vo3 od3 hS3 hO3 hp3 hE3
        have hS33 := hide hS3
        have hO33 := hide hO3
        have hp33 := hide hp3
        have hE33 := hide hE3
        clear hS3 hO3 hp3 hE3
        go_wp2_with fail
        refine ⟨⟨i + 1, od3, by go_num, by omega, hS33.out, hO33.out, hp33.out, ?_⟩, by simp [intOf]; omega⟩
        show _ = _
        rw [hE33.out, hsnc.out, ← hE.out]
    · have e : i = od0.length := by omega
      have h1 := hE.out
      rw [e, List.take_of_length_le (by simp)] at h1
      have h2 := hide h1
      have he := hide e
      clear e h1
      go_wp2_with fail
      exact hQ _ _ _ _ _ _ _ _ _ _ _ _ _ _ _ _ _ _ _ _ _ _ _ _ _ _ _ _ _ _ _ _ _ _ _ _ _ _ _ _ _ _ _ _ _ _ _ _ _ _ wr _ od' hSH.out hO'.out hp'.out h2.out

set_option maxHeartbeats 8000000 in
set_option maxRecDepth 100000 in
theorem can_x {wB w : World} {g1 L gC gN : Nat} {vl vb va vo : Value} {lf cl so od : List Nat} {t : List (List (List Nat))} {ac : List Bool} (hX : RclX wB g1 L ac.length gC vl vb va (mleaf lf) (mbr t) (macc ac) cl) (hC : CanC L ac lf cl so t) (hn : ac.length ≤ 20000) (hL : L ≤ 8)
    (hS : CanS wB w ac.length gN vo cl od) (hO : OdS ac.length cl od)
    {u0 u2 u4 u6 u8 u9 u12 u13 u14 u15 u16 u17 u18 u19 u20 u21 u22 u23 u24 u25 u26 u27 u28 u29 u30 u31 u32 u33 u34 u35 u36 u37 u38 u39 u40 u41 u42 u43 u44 u45 u46 u47 u48 u49 u50 u51 u52 u53 u54 u55 u56 u57 u58 u59 u60 u61 u62 u63 u64 u65 u66 u67 u68 u69 u70 u71 u72 u73 u74 u75 u76 u77 u78 u79 u80 u81 u82 u83 u84 u85 u86 u87 u88 u89 u90 u91 u92 u93 u94 u95 u96 u97 u98 u99 u100 u101 u102 u103 u104 u105 u106 u107 u108 u109 u110 u111 u112 u113 u114 u115 u116 u117 u118 u119 u120 u121 u122 u123 u124 u125 u126 u127 u128 u129 u130 u131 u132 u133 u134 u135 u136 u137 u138 u139 u140 u141 u142 u143 u144 u145 u146 u147 u148 u149 u150 u151 u152 u153 u154 u155 u156 u157 u158 u159 u160 u161 u162 u163 u164 u165 u166 u167 u168 u169 u170 u171 u172 u173 u174 u175 u176 u177 u178 u179 u180 u181 u182 u183 u184 u185 u186 u187 u188 u189 u190 u191 u192 u193 u194 u195 u196 u197 u198 u199 u200 u201 u202 u203 u204 u205 u206 u207 u208 u209 u210 u211 u212 u213 u214 u215 u216 u217 u218 u219 u220 u221 u222 u223 u224 u225 : Value}
    {Q : Exit → Act → World → Prop} (hN : Reg.NoQ Q)
    (hQ : ∀ (x11 x12 x13 x14 x81 x82 x83 x84 x85 x86 x87 x88 x89 x90 x91 x92 x93 x94 x95 x96 x97 x98 x99 x100 x101 x102 x103 x104 x105 x106 x107 x108 x109 x110 x111 x112 x113 x114 x115 x116 x117 x118 x119 x120 x121 x122 x123 x124 x125 x126 x127 x128 x129 x130 x131 x132 x133 : Value) (w' : World) (vo' : Value) (od' : List Nat), CanS wB w' ac.length gN vo' cl od' → OdS ac.length cl od' → od'.map (clN' cl) = roundL L (cBr cl so t) (od.map (clN' cl)) →
      Q (.exit 6) ⟨List.toArray (u0 :: (.pointer (some ⟨g1, 0, none⟩)) :: u2 :: (.slice (some ⟨gC, 0, none⟩) ac.length ac.length) :: u4 :: (.slice (some ⟨gN, 0, none⟩) ac.length ac.length) :: u6 :: vo' :: u8 :: u9 :: (.int .i64 od.length) :: x11 :: x12 :: x13 :: x14 :: u15 :: u16 :: u17 :: 
      u18 :: u19 :: u20 :: u21 :: u22 :: u23 :: u24 :: u25 :: u26 :: u27 :: u28 :: u29 :: u30 :: u31 :: u32 :: u33 :: u34 :: u35 :: u36 :: u37 :: u38 :: u39 :: u40 :: u41 :: u42 :: u43 :: u44 :: u45 :: u46 :: u47 :: u48 :: u49 :: u50 :: u51 :: u52 :: u53 :: u54 :: 
      u55 :: u56 :: u57 :: u58 :: u59 :: u60 :: u61 :: u62 :: u63 :: u64 :: u65 :: u66 :: u67 :: u68 :: u69 :: u70 :: u71 :: u72 :: u73 :: u74 :: u75 :: u76 :: u77 :: u78 :: u79 :: u80 :: x81 :: x82 :: x83 :: x84 :: x85 :: x86 :: x87 :: x88 :: x89 :: x90 :: x91 :: 
      x92 :: x93 :: x94 :: x95 :: x96 :: x97 :: x98 :: x99 :: x100 :: x101 :: x102 :: x103 :: x104 :: x105 :: x106 :: x107 :: x108 :: x109 :: x110 :: x111 :: x112 :: x113 :: x114 :: x115 :: x116 :: x117 :: x118 :: x119 :: x120 :: x121 :: x122 :: x123 :: x124 :: x125 :: 
      x126 :: x127 :: x128 :: x129 :: x130 :: x131 :: x132 :: x133 :: u134 :: u135 :: u136 :: u137 :: u138 :: u139 :: u140 :: u141 :: u142 :: u143 :: u144 :: u145 :: u146 :: u147 :: u148 :: u149 :: u150 :: u151 :: u152 :: u153 :: u154 :: u155 :: u156 :: u157 :: u158 :: 
      u159 :: u160 :: u161 :: u162 :: u163 :: u164 :: u165 :: u166 :: u167 :: u168 :: u169 :: u170 :: u171 :: u172 :: u173 :: u174 :: u175 :: u176 :: u177 :: u178 :: u179 :: u180 :: u181 :: u182 :: u183 :: u184 :: u185 :: u186 :: u187 :: u188 :: u189 :: u190 :: u191 :: 
      u192 :: u193 :: u194 :: u195 :: u196 :: u197 :: u198 :: u199 :: u200 :: u201 :: u202 :: u203 :: u204 :: u205 :: u206 :: u207 :: u208 :: u209 :: u210 :: u211 :: u212 :: u213 :: u214 :: u215 :: u216 :: u217 :: u218 :: u219 :: u220 :: u221 :: u222 :: u223 :: u224 :: 
      u225 :: []), []⟩ w') :
    (Code.loop (loopBody Try.f60 3)).wp Try.prog Q ⟨List.toArray (u0 :: (.pointer (some ⟨g1, 0, none⟩)) :: u2 :: (.slice (some ⟨gC, 0, none⟩) ac.length ac.length) :: u4 :: (.slice (some ⟨gN, 0, none⟩) ac.length ac.length) :: u6 :: vo :: u8 :: u9 :: (.int .i64 od.length) :: (.int .i64 0) :: u12 :: u13 :: u14 :: u15 :: u16 :: 
      u17 :: u18 :: u19 :: u20 :: u21 :: u22 :: u23 :: u24 :: u25 :: u26 :: u27 :: u28 :: u29 :: u30 :: u31 :: u32 :: u33 :: u34 :: u35 :: u36 :: u37 :: u38 :: u39 :: u40 :: u41 :: u42 :: u43 :: u44 :: u45 :: u46 :: u47 :: u48 :: u49 :: u50 :: u51 :: u52 :: u53 :: 
      u54 :: u55 :: u56 :: u57 :: u58 :: u59 :: u60 :: u61 :: u62 :: u63 :: u64 :: u65 :: u66 :: u67 :: u68 :: u69 :: u70 :: u71 :: u72 :: u73 :: u74 :: u75 :: u76 :: u77 :: u78 :: u79 :: u80 :: u81 :: u82 :: u83 :: u84 :: u85 :: u86 :: u87 :: u88 :: u89 :: u90 :: 
      u91 :: u92 :: u93 :: u94 :: u95 :: u96 :: u97 :: u98 :: u99 :: u100 :: u101 :: u102 :: u103 :: u104 :: u105 :: u106 :: u107 :: u108 :: u109 :: u110 :: u111 :: u112 :: u113 :: u114 :: u115 :: u116 :: u117 :: u118 :: u119 :: u120 :: u121 :: u122 :: u123 :: u124 :: 
      u125 :: u126 :: u127 :: u128 :: u129 :: u130 :: u131 :: u132 :: u133 :: u134 :: u135 :: u136 :: u137 :: u138 :: u139 :: u140 :: u141 :: u142 :: u143 :: u144 :: u145 :: u146 :: u147 :: u148 :: u149 :: u150 :: u151 :: u152 :: u153 :: u154 :: u155 :: u156 :: u157 :: 
      u158 :: u159 :: u160 :: u161 :: u162 :: u163 :: u164 :: u165 :: u166 :: u167 :: u168 :: u169 :: u170 :: u171 :: u172 :: u173 :: u174 :: u175 :: u176 :: u177 :: u178 :: u179 :: u180 :: u181 :: u182 :: u183 :: u184 :: u185 :: u186 :: u187 :: u188 :: u189 :: u190 :: 
      u191 :: u192 :: u193 :: u194 :: u195 :: u196 :: u197 :: u198 :: u199 :: u200 :: u201 :: u202 :: u203 :: u204 :: u205 :: u206 :: u207 :: u208 :: u209 :: u210 :: u211 :: u212 :: u213 :: u214 :: u215 :: u216 :: u217 :: u218 :: u219 :: u220 :: u221 :: u222 :: u223 :: 
      u224 :: u225 :: []), []⟩ w := by
  conv => arg 2; arg 1; whnf
  have hod0 := hO.len hC.lt
  have hCH := hide hC
  have hO0 := hide hO
  clear hO hC
  go_loopw [7, 11] (fun oo xx wr => ∃ (x : Nat) (od' : List Nat), xx = .int .i64 (x : Int) ∧ x ≤ L ∧ CanS wB wr ac.length gN oo cl od' ∧ Hid (OdS ac.length cl od') ∧ Hid (od <+: od') ∧
    Hid (od'.map (clN' cl) = (List.range x).foldl (stepA (cBr cl so t) (od.map (clN' cl))) (od.map (clN' cl)))) (fun _ xx _ => L - (intOf xx).toNat)
  case atStart => exact ⟨0, od, rfl, Nat.zero_le _, hS, hO0.out, List.prefix_refl _, rfl⟩
  case round =>
    obtain ⟨x, od', rfl, hx, hS', hO', hp', hE⟩ := hrel
    have hc1 := (hX.at hS'.below).b.cell
    have hSH := hide hS'
    clear hS'
    by_cases hlt : x < L
    · have hsnc := hide (range_snoc (stepA (cBr cl so t) (od.map (clN' cl))) (od.map (clN' cl)) x)
      go_wp2_with fail
      refine can_i hX hCH.out hn hlt hod0 hSH.out hO'.out hp'.out ?_ ?_
      · repeat (first | exact hN | refine Reg.NoQ.then ?_ | refine Reg.NoQ.inBlock ?_)
      · iterate 50 (intro _)
        intro w3 vo3 od3 hS3 hO3 hp3 hE3
        have hS33 := hide hS3
        have hO33 := hide hO3
        have hp33 := hide hp3
        have hE33 := hide hE3
        clear hS3 hO3 hp3 hE3 hc1
        go_wp2_with fail
        refine ⟨⟨x + 1, od3, by go_num, by omega, hS33.out, hO33.out, hp33.out, ?_⟩, by simp [intOf]; omega⟩
        show _ = _
        rw [hE33.out, hsnc.out, ← hE.out]
    · obtain rfl : x = L := by omega
      go_wp2_with fail
      exact hQ _ _ _ _ _ _ _ _ _ _ _ _ _ _ _ _ _ _ _ _ _ _ _ _ _ _ _ _ _ _ _ _ _ _ _ _ _ _ _ _ _ _ _ _ _ _ _ _ _ _ _ _ _ _ _ _ _ wr _ od' hSH.out hO'.out hE.out

set_option maxHeartbeats 8000000 in
set_option maxRecDepth 100000 in
theorem can_rounds {wB w : World} {g1 L gC gN : Nat} {vl vb va vo : Value} {lf cl so od : List Nat} {t : List (List (List Nat))} {ac : List Bool} (hX : RclX wB g1 L ac.length gC vl vb va (mleaf lf) (mbr t) (macc ac) cl) (hC : CanC L ac lf cl so t) (hn : ac.length ≤ 20000) (hL : L ≤ 8) (hL1 : 1 ≤ L)
    (hS : CanS wB w ac.length gN vo cl od) (hO : OdS ac.length cl od) (hE : od.map (clN' cl) = leafL L (cLeaf cl lf))
    {u0 u2 u4 u6 u8 u10 u11 u12 u13 u14 u15 u16 u17 u18 u19 u20 u21 u22 u23 u24 u25 u26 u27 u28 u29 u30 u31 u32 u33 u34 u35 u36 u37 u38 u39 u40 u41 u42 u43 u44 u45 u46 u47 u48 u49 u50 u51 u52 u53 u54 u55 u56 u57 u58 u59 u60 u61 u62 u63 u64 u65 u66 u67 u68 u69 u70 u71 u72 u73 u74 u75 u76 u77 u78 u79 u80 u81 u82 u83 u84 u85 u86 u87 u88 u89 u90 u91 u92 u93 u94 u95 u96 u97 u98 u99 u100 u101 u102 u103 u104 u105 u106 u107 u108 u109 u110 u111 u112 u113 u114 u115 u116 u117 u118 u119 u120 u121 u122 u123 u124 u125 u126 u127 u128 u129 u130 u131 u132 u133 u134 u135 u136 u137 u138 u139 u140 u141 u142 u143 u144 u145 u146 u147 u148 u149 u150 u151 u152 u153 u154 u155 u156 u157 u158 u159 u160 u161 u162 u163 u164 u165 u166 u167 u168 u169 u170 u171 u172 u173 u174 u175 u176 u177 u178 u179 u180 u181 u182 u183 u184 u185 u186 u187 u188 u189 u190 u191 u192 u193 u194 u195 u196 u197 u198 u199 u200 u201 u202 u203 u204 u205 u206 u207 u208 u209 u210 u211 u212 u213 u214 u215 u216 u217 u218 u219 u220 u221 u222 u223 u224 u225 : Value}
    {Q : Exit → Act → World → Prop} (hN : Reg.NoQ Q)
    (hQ : ∀ (x9 x10 x11 x12 x13 x14 x74 x75 x76 x77 x78 x79 x80 x81 x82 x83 x84 x85 x86 x87 x88 x89 x90 x91 x92 x93 x94 x95 x96 x97 x98 x99 x100 x101 x102 x103 x104 x105 x106 x107 x108 x109 x110 x111 x112 x113 x114 x115 x116 x117 x118 x119 x120 x121 x122 x123 x124 x125 x126 x127 x128 x129 x130 x131 x132 x133 : Value) (w' : World) (vo' : Value) (od' : List Nat), CanS wB w' ac.length gN vo' cl od' → OdS ac.length cl od' → Disc L (cLeaf cl lf) (cBr cl so t) (od'.map (clN' cl)) →
      Q (.exit 4) ⟨List.toArray (u0 :: (.pointer (some ⟨g1, 0, none⟩)) :: u2 :: (.slice (some ⟨gC, 0, none⟩) ac.length ac.length) :: u4 :: (.slice (some ⟨gN, 0, none⟩) ac.length ac.length) :: u6 :: vo' :: u8 :: x9 :: x10 :: x11 :: x12 :: x13 :: x14 :: u15 :: u16 :: u17 :: u18 :: u19 :: u20 :: 
      u21 :: u22 :: u23 :: u24 :: u25 :: u26 :: u27 :: u28 :: u29 :: u30 :: u31 :: u32 :: u33 :: u34 :: u35 :: u36 :: u37 :: u38 :: u39 :: u40 :: u41 :: u42 :: u43 :: u44 :: u45 :: u46 :: u47 :: u48 :: u49 :: u50 :: u51 :: u52 :: u53 :: u54 :: u55 :: u56 :: u57 :: 
      u58 :: u59 :: u60 :: u61 :: u62 :: u63 :: u64 :: u65 :: u66 :: u67 :: u68 :: u69 :: u70 :: u71 :: u72 :: u73 :: x74 :: x75 :: x76 :: x77 :: x78 :: x79 :: x80 :: x81 :: x82 :: x83 :: x84 :: x85 :: x86 :: x87 :: x88 :: x89 :: x90 :: x91 :: x92 :: x93 :: x94 :: 
      x95 :: x96 :: x97 :: x98 :: x99 :: x100 :: x101 :: x102 :: x103 :: x104 :: x105 :: x106 :: x107 :: x108 :: x109 :: x110 :: x111 :: x112 :: x113 :: x114 :: x115 :: x116 :: x117 :: x118 :: x119 :: x120 :: x121 :: x122 :: x123 :: x124 :: x125 :: x126 :: x127 :: 
      x128 :: x129 :: x130 :: x131 :: x132 :: x133 :: u134 :: u135 :: u136 :: u137 :: u138 :: u139 :: u140 :: u141 :: u142 :: u143 :: u144 :: u145 :: u146 :: u147 :: u148 :: u149 :: u150 :: u151 :: u152 :: u153 :: u154 :: u155 :: u156 :: u157 :: u158 :: u159 :: u160 :: 
      u161 :: u162 :: u163 :: u164 :: u165 :: u166 :: u167 :: u168 :: u169 :: u170 :: u171 :: u172 :: u173 :: u174 :: u175 :: u176 :: u177 :: u178 :: u179 :: u180 :: u181 :: u182 :: u183 :: u184 :: u185 :: u186 :: u187 :: u188 :: u189 :: u190 :: u191 :: u192 :: u193 :: 
      u194 :: u195 :: u196 :: u197 :: u198 :: u199 :: u200 :: u201 :: u202 :: u203 :: u204 :: u205 :: u206 :: u207 :: u208 :: u209 :: u210 :: u211 :: u212 :: u213 :: u214 :: u215 :: u216 :: u217 :: u218 :: u219 :: u220 :: u221 :: u222 :: u223 :: u224 :: u225 :: []), []⟩ w') :
    (Code.loop (loopBody Try.f60 2)).wp Try.prog Q ⟨List.toArray (u0 :: (.pointer (some ⟨g1, 0, none⟩)) :: u2 :: (.slice (some ⟨gC, 0, none⟩) ac.length ac.length) :: u4 :: (.slice (some ⟨gN, 0, none⟩) ac.length ac.length) :: u6 :: vo :: u8 :: (.int .i64 (-1)) :: u10 :: u11 :: u12 :: u13 :: u14 :: u15 :: u16 :: u17 :: u18 :: 
      u19 :: u20 :: u21 :: u22 :: u23 :: u24 :: u25 :: u26 :: u27 :: u28 :: u29 :: u30 :: u31 :: u32 :: u33 :: u34 :: u35 :: u36 :: u37 :: u38 :: u39 :: u40 :: u41 :: u42 :: u43 :: u44 :: u45 :: u46 :: u47 :: u48 :: u49 :: u50 :: u51 :: u52 :: u53 :: u54 :: u55 :: 
      u56 :: u57 :: u58 :: u59 :: u60 :: u61 :: u62 :: u63 :: u64 :: u65 :: u66 :: u67 :: u68 :: u69 :: u70 :: u71 :: u72 :: u73 :: u74 :: u75 :: u76 :: u77 :: u78 :: u79 :: u80 :: u81 :: u82 :: u83 :: u84 :: u85 :: u86 :: u87 :: u88 :: u89 :: u90 :: u91 :: u92 :: 
      u93 :: u94 :: u95 :: u96 :: u97 :: u98 :: u99 :: u100 :: u101 :: u102 :: u103 :: u104 :: u105 :: u106 :: u107 :: u108 :: u109 :: u110 :: u111 :: u112 :: u113 :: u114 :: u115 :: u116 :: u117 :: u118 :: u119 :: u120 :: u121 :: u122 :: u123 :: u124 :: u125 :: 
      u126 :: u127 :: u128 :: u129 :: u130 :: u131 :: u132 :: u133 :: u134 :: u135 :: u136 :: u137 :: u138 :: u139 :: u140 :: u141 :: u142 :: u143 :: u144 :: u145 :: u146 :: u147 :: u148 :: u149 :: u150 :: u151 :: u152 :: u153 :: u154 :: u155 :: u156 :: u157 :: u158 :: 
      u159 :: u160 :: u161 :: u162 :: u163 :: u164 :: u165 :: u166 :: u167 :: u168 :: u169 :: u170 :: u171 :: u172 :: u173 :: u174 :: u175 :: u176 :: u177 :: u178 :: u179 :: u180 :: u181 :: u182 :: u183 :: u184 :: u185 :: u186 :: u187 :: u188 :: u189 :: u190 :: u191 :: 
      u192 :: u193 :: u194 :: u195 :: u196 :: u197 :: u198 :: u199 :: u200 :: u201 :: u202 :: u203 :: u204 :: u205 :: u206 :: u207 :: u208 :: u209 :: u210 :: u211 :: u212 :: u213 :: u214 :: u215 :: u216 :: u217 :: u218 :: u219 :: u220 :: u221 :: u222 :: u223 :: u224 :: 
      u225 :: []), []⟩ w := by
  conv => arg 2; arg 1; whnf
  have hclH := hide hC.lt
  have hCH := hide hC
  have hO0 := hide hO
  have hR0 := hide (show RInv L (cLeaf cl lf) (cBr cl so t) 0 (od.map (clN' cl)) by rw [hE]; exact RInv.start _ _ _)
  clear hO hC hE
  go_loopw [7, 9] (fun oo dd wr => ∃ (kn : Nat) (d : Int) (od' : List Nat), dd = .int .i64 d ∧ (d = -1 ∧ kn = 0 ∨ d = (kn : Int)) ∧ CanS wB wr ac.length gN oo cl od' ∧ Hid (OdS ac.length cl od') ∧
    Hid (RInv L (cLeaf cl lf) (cBr cl so t) kn (od'.map (clN' cl)))) (fun _ dd _ => ((ac.length : Int) - intOf dd).toNat)
  case atStart => exact ⟨0, -1, od, rfl, .inl ⟨rfl, rfl⟩, hS, hO0.out, hR0.out⟩
  case round =>
    obtain ⟨kn, d, od', rfl, hd, hS', hO', hR⟩ := hrel
    obtain ⟨Ao, co, rfl⟩ := slice_of_own hS'.ord
    have hol := hO'.out.len hclH.out
    have hkl : kn ≤ od'.length := by have := hR.out.le; simpa using this
    have hSH := hide hS'
    clear hS'
    by_cases hlt : d = (od'.length : Int)
    · have hb : (d != (od'.length : Int)) = false := by simp [hlt]
      have hkn : kn = od'.length := by omega
      have hR2 := hR.out
      rw [hkn] at hR2
      have hD := hide (show Disc L (cLeaf cl lf) (cBr cl so t) (od'.map (clN' cl)) from RInv.done hL1 (by simpa using hR2))
      clear hlt hkn hR2 hd
      go_wp2_with fail
      exact hQ _ _ _ _ _ _ _ _ _ _ _ _ _ _ _ _ _ _ _ _ _ _ _ _ _ _ _ _ _ _ _ _ _ _ _ _ _ _ _ _ _ _ _ _ _ _ _ _ _ _ _ _ _ _ _ _ _ _ _ _ _ _ _ _ _ _ wr _ od' hSH.out hO'.out hD.out
    · have hb : (d != (od'.length : Int)) = true := by simp [hlt]
      have hdl : d < (od'.length : Int) := by omega
      have hd1 : -1 ≤ d := by omega
      have hdH := hide hd
      clear hlt hd
      go_wp2_with fail
      refine can_x hX hCH.out hn hL hSH.out hO'.out ?_ ?_
      · repeat (first | exact hN | refine Reg.NoQ.then ?_ | refine Reg.NoQ.inBlock ?_)
      · iterate 57 (intro _)
        intro w3 vo3 od3 hS3 hO3 hE3
        have hS33 := hide hS3
        have hO33 := hide hO3
        have hR3 := hide (show RInv L (cLeaf cl lf) (cBr cl so t) od'.length (od3.map (clN' cl)) by rw [hE3]; have := hR.out.step; simpa using this)
        clear hS3 hO3 hE3
        go_wp2_with fail
        exact ⟨⟨od'.length, _, od3, rfl, .inr rfl, hS33.out, hO33.out, hR3.out⟩, by simp [intOf]; omega⟩
end Go.Proofs.Ytnimlcbgeiajiaa

namespace Go.Proofs.Ytnimlcbgeiajiaa
open Go.RowKit

theorem ordLeaf_get {l : List Nat} {leaf : Nat → Nat} {L x : Nat} (h : x < L) : mleaf (ordLeaf l leaf L) x = l.idxOf (leaf x) := by
  unfold mleaf ordLeaf
  exact getD_some (by simp [h])
theorem ordTab_get {l : List Nat} {br : Nat → Nat → Nat → Nat} {L x i k p q : Nat} (hx : x < L) (hi : l[i]? = some p) (hk : l[k]? = some q) : mbr (ordTab l br L) x i k = l.idxOf (br x p q) := by
  have e1 : (ordTab l br L).getD i [] = ordLine l br L p := getD_some (map_get (f := fun p => ordLine l br L p) hi)
  have e2 : (ordLine l br L p).getD k [] = ordRow l br L p q := getD_some (map_get (f := fun q => ordRow l br L p q) hk)
  unfold mbr
  rw [e1, e2]
  exact getD_some (by simp [ordRow, hx])

/-- What the writing of the automaton reads. -/
structure CanT (wA wb : World) (g1 L gC gN g4 : Nat) (vl vb va : Value) (lf : List Nat) (t : List (List (List Nat))) (ac : List Bool) (cl : List Nat) (vo : Value) (od : List Nat) : Prop where
  x : RclX wA g1 L ac.length gC vl vb va (mleaf lf) (mbr t) (macc ac) cl
  b : Below wA.heap.size wA wb
  num : Blk wb gN 3 (rangeC ac.length fun c => .int .i64 (numF (od.map (clN' cl)) c))
  ord : wb.ownsRow (gN + 1) 3 1 vo od.length (od.map encN)
  h4 : wA.heap.size ≤ g4
  b4 : ∃ cs, Blk wb g4 26 cs
section
variable {wA wb wr : World} {g1 L gC gN g4 : Nat} {vl vb va vo : Value} {lf : List Nat} {t : List (List (List Nat))} {ac : List Bool} {cl od : List Nat}
theorem CanT.keep (h : CanT wA wb g1 L gC gN g4 vl vb va lf t ac cl vo od) (hk : Kept wb wr (fun k => k = g4)) : RclX wr g1 L ac.length gC vl vb va (mleaf lf) (mbr t) (macc ac) cl ∧ Blk wr gN 3 (rangeC ac.length fun c => .int .i64 (numF (od.map (clN' cl)) c)) ∧ wr.ownsRow (gN + 1) 3 1 vo od.length (od.map encN) := by
  obtain ⟨cs, hb4⟩ := h.b4
  refine ⟨h.x.at (h.b.trans (hk.below h.b.size fun b hb e => by have := h.h4; omega)), h.num.kept hk (h.num.ne_ hb4 (by decide)), own_ty hk h.ord fun g cs' e hb => by subst e; exact hb4.ne_ hb (by decide) rfl⟩
end

set_option maxHeartbeats 8000000 in
set_option maxRecDepth 100000 in
theorem can_acc {wA wb w : World} {g1 L gC gN g4 : Nat} {vl vb va vo : Value} {lf cl so od : List Nat} {t : List (List (List Nat))} {ac : List Bool} (hT : CanT wA wb g1 L gC gN g4 vl vb va lf t ac cl vo od) (hC : CanC L ac lf cl so t) (hn : ac.length ≤ 300) (hO : OdS ac.length cl od)
    (hP : PlS wb w g4 L od.length (.slice none 0 0) (.slice none 0 0) (.slice none 0 0) [] [] [])
    {u0 u2 u3 u5 u6 u8 u9 u10 u11 u12 u13 u14 u16 u17 u18 u19 u20 u21 u22 u23 u24 u25 u26 u27 u28 u29 u30 u31 u32 u33 u34 u35 u36 u37 u38 u39 u40 u41 u42 u43 u44 u45 u46 u47 u48 u49 u50 u51 u52 u53 u54 u55 u56 u57 u58 u59 u60 u61 u62 u63 u64 u65 u66 u67 u68 u69 u70 u71 u72 u73 u74 u75 u76 u77 u78 u79 u80 u81 u82 u83 u84 u85 u86 u87 u88 u89 u90 u91 u92 u93 u94 u95 u96 u97 u98 u99 u100 u101 u102 u103 u104 u105 u106 u107 u108 u109 u110 u111 u112 u113 u114 u115 u116 u117 u118 u119 u120 u121 u122 u123 u124 u125 u126 u127 u128 u129 u130 u131 u132 u133 u134 u135 u136 u137 u138 u139 u140 u141 u142 u143 u144 u145 u146 u147 u148 u149 u150 u151 u152 u153 u154 u155 u156 u157 u158 u159 u160 u161 u162 u163 u164 u165 u166 u167 u168 u169 u170 u171 u172 u173 u174 u175 u176 u177 u178 u179 u180 u181 u182 u183 u184 u185 u186 u187 u188 u189 u190 u191 u192 u193 u194 u195 u196 u197 u198 u199 u200 u201 u202 u203 u204 u205 u206 u207 u208 u209 u210 u211 u212 u213 u214 u215 u216 u217 u218 u219 u220 u221 u222 u223 u224 u225 : Value}
    {Q : Exit → Act → World → Prop} (hN : Reg.NoQ Q)
    (hQ : ∀ (x15 x137 x138 x139 x140 x141 x142 x143 x144 x145 x146 x147 x148 x149 x150 x151 x152 x153 x154 x155 x156 : Value) (w' : World) (v : Value), PlS wb w' g4 L od.length v (.slice none 0 0) (.slice none 0 0) (accIdx ((od.map (clN' cl)).map (cAcc ac so))) [] [] → Q (.exit 12) ⟨List.toArray (u0 :: (.pointer (some ⟨g1, 0, none⟩)) :: u2 :: u3 :: (.pointer (some ⟨g4, 0, none⟩)) :: u5 :: u6 :: vo :: u8 :: u9 :: u10 :: u11 :: u12 :: u13 :: u14 :: x15 :: u16 :: u17 :: u18 :: u19 :: u20 :: u21 :: u22 :: u23 :: u24 :: u25 :: u26 :: u27 :: u28 :: u29 :: 
      u30 :: u31 :: u32 :: u33 :: u34 :: u35 :: u36 :: u37 :: u38 :: u39 :: u40 :: u41 :: u42 :: u43 :: u44 :: u45 :: u46 :: u47 :: u48 :: u49 :: u50 :: u51 :: u52 :: u53 :: u54 :: u55 :: u56 :: u57 :: u58 :: u59 :: u60 :: u61 :: u62 :: u63 :: u64 :: u65 :: u66 :: 
      u67 :: u68 :: u69 :: u70 :: u71 :: u72 :: u73 :: u74 :: u75 :: u76 :: u77 :: u78 :: u79 :: u80 :: u81 :: u82 :: u83 :: u84 :: u85 :: u86 :: u87 :: u88 :: u89 :: u90 :: u91 :: u92 :: u93 :: u94 :: u95 :: u96 :: u97 :: u98 :: u99 :: u100 :: u101 :: u102 :: u103 :: 
      u104 :: u105 :: u106 :: u107 :: u108 :: u109 :: u110 :: u111 :: u112 :: u113 :: u114 :: u115 :: u116 :: u117 :: u118 :: u119 :: u120 :: u121 :: u122 :: u123 :: u124 :: u125 :: u126 :: u127 :: u128 :: u129 :: u130 :: u131 :: u132 :: u133 :: u134 :: u135 :: u136 :: 
      x137 :: x138 :: x139 :: x140 :: x141 :: x142 :: x143 :: x144 :: x145 :: x146 :: x147 :: x148 :: x149 :: x150 :: x151 :: x152 :: x153 :: x154 :: x155 :: x156 :: u157 :: u158 :: u159 :: u160 :: u161 :: u162 :: u163 :: u164 :: u165 :: u166 :: u167 :: u168 :: u169 :: 
      u170 :: u171 :: u172 :: u173 :: u174 :: u175 :: u176 :: u177 :: u178 :: u179 :: u180 :: u181 :: u182 :: u183 :: u184 :: u185 :: u186 :: u187 :: u188 :: u189 :: u190 :: u191 :: u192 :: u193 :: u194 :: u195 :: u196 :: u197 :: u198 :: u199 :: u200 :: u201 :: u202 :: 
      u203 :: u204 :: u205 :: u206 :: u207 :: u208 :: u209 :: u210 :: u211 :: u212 :: u213 :: u214 :: u215 :: u216 :: u217 :: u218 :: u219 :: u220 :: u221 :: u222 :: u223 :: u224 :: u225 :: []), []⟩ w') :
    (Code.loop (loopBody Try.f60 6)).wp Try.prog Q ⟨List.toArray (u0 :: (.pointer (some ⟨g1, 0, none⟩)) :: u2 :: u3 :: (.pointer (some ⟨g4, 0, none⟩)) :: u5 :: u6 :: vo :: u8 :: u9 :: u10 :: u11 :: u12 :: u13 :: u14 :: (.int .i64 0) :: u16 :: u17 :: u18 :: u19 :: u20 :: u21 :: u22 :: u23 :: u24 :: u25 :: u26 :: u27 :: u28 :: 
      u29 :: u30 :: u31 :: u32 :: u33 :: u34 :: u35 :: u36 :: u37 :: u38 :: u39 :: u40 :: u41 :: u42 :: u43 :: u44 :: u45 :: u46 :: u47 :: u48 :: u49 :: u50 :: u51 :: u52 :: u53 :: u54 :: u55 :: u56 :: u57 :: u58 :: u59 :: u60 :: u61 :: u62 :: u63 :: u64 :: u65 :: 
      u66 :: u67 :: u68 :: u69 :: u70 :: u71 :: u72 :: u73 :: u74 :: u75 :: u76 :: u77 :: u78 :: u79 :: u80 :: u81 :: u82 :: u83 :: u84 :: u85 :: u86 :: u87 :: u88 :: u89 :: u90 :: u91 :: u92 :: u93 :: u94 :: u95 :: u96 :: u97 :: u98 :: u99 :: u100 :: u101 :: u102 :: 
      u103 :: u104 :: u105 :: u106 :: u107 :: u108 :: u109 :: u110 :: u111 :: u112 :: u113 :: u114 :: u115 :: u116 :: u117 :: u118 :: u119 :: u120 :: u121 :: u122 :: u123 :: u124 :: u125 :: u126 :: u127 :: u128 :: u129 :: u130 :: u131 :: u132 :: u133 :: u134 :: u135 :: 
      u136 :: u137 :: u138 :: u139 :: u140 :: u141 :: u142 :: u143 :: u144 :: u145 :: u146 :: u147 :: u148 :: u149 :: u150 :: u151 :: u152 :: u153 :: u154 :: u155 :: u156 :: u157 :: u158 :: u159 :: u160 :: u161 :: u162 :: u163 :: u164 :: u165 :: u166 :: u167 :: u168 :: 
      u169 :: u170 :: u171 :: u172 :: u173 :: u174 :: u175 :: u176 :: u177 :: u178 :: u179 :: u180 :: u181 :: u182 :: u183 :: u184 :: u185 :: u186 :: u187 :: u188 :: u189 :: u190 :: u191 :: u192 :: u193 :: u194 :: u195 :: u196 :: u197 :: u198 :: u199 :: u200 :: u201 :: 
      u202 :: u203 :: u204 :: u205 :: u206 :: u207 :: u208 :: u209 :: u210 :: u211 :: u212 :: u213 :: u214 :: u215 :: u216 :: u217 :: u218 :: u219 :: u220 :: u221 :: u222 :: u223 :: u224 :: u225 :: []), []⟩ w := by
  conv => arg 2; arg 1; whnf
  have hol := hO.len hC.lt
  have hCH := hide hC
  have hOH := hide hO
  have hTH := hide hT
  clear hC hO hT
  obtain ⟨Ao, co, rfl⟩ := slice_of_own hTH.out.ord
  go_loopw [15] (fun ii wr => ∃ (k : Nat) (v : Value) (al : List Nat), ii = .int .i64 (k : Int) ∧ k ≤ od.length ∧ al.length ≤ k ∧ PlS wb wr g4 L od.length v (.slice none 0 0) (.slice none 0 0) al [] [] ∧ Hid (al = (List.range k).filter fun i => macc ((od.map (clN' cl)).map (cAcc ac so)) i)) (fun ii _ => od.length - (intOf ii).toNat)
  case atStart => exact ⟨0, _, [], rfl, Nat.zero_le _, by simp, hP, rfl⟩
  case round =>
    obtain ⟨k, v, al, rfl, hk, hal, hPP, hl⟩ := hrel
    obtain ⟨hX, -, hord⟩ := hTH.out.keep hPP.kept
    obtain ⟨A, c, rfl⟩ := slice_of_own hPP.acc
    by_cases hlt : k < od.length
    · obtain ⟨p, hp⟩ := get_lt hlt
      have hpn := hOH.out.lt p (List.mem_of_getElem? hp)
      obtain ⟨go, co', hv, hcp⟩ := own_get hord (map_get (f := encN) hp)
      injection hv with hv _ hv3
      subst hv hv3
      simp only [encN] at hcp
      have hc1 := hX.b.cell
      obtain ⟨ga, ca, rfl, hac⟩ := hX.t.acc
      have hca := hac p hpn
      have hmb : macc ((od.map (clN' cl)).map (cAcc ac so)) k = macc ac p := by
        rw [cls_acc hCH.out.d hCH.out.r hpn]
        exact getD_some (map_get (map_get hp))
      obtain ⟨b, hb⟩ : ∃ b, macc ac p = b := ⟨_, rfl⟩
      rw [hb] at hmb hca
      have hrs : Hid ((List.range (k + 1)).filter (fun i => macc ((od.map (clN' cl)).map (cAcc ac so)) i) = al ++ (if b = true then [k] else [])) := by
        show _ = _
        rw [List.range_succ, List.filter_append, ← hl.out]
        simp only [List.filter_cons, List.filter_nil, hmb]
      have hPd := hPP.keep0 ((Kept.refl wr (fun _ => False)).drew)
      have hc4 := hPP.blk.cell
      have hwb := hPP.kept.size
      have hPH := hide hPd
      clear hp hac hmb hb hPP hPd
      cases b
      · go_wp2_with fail
        refine Reg.region_plain [0, 1, 0, 0, 12, 28, 63, 127] (by kernel_rfl) (by repeat (first | exact hN | refine Reg.NoQ.then ?_ | refine Reg.NoQ.inBlock ?_)) ?_
        go_wp2_with fail
        exact ⟨⟨k + 1, _, al, by simp, by omega, by omega, hPH.out, by show _ = _; rw [hrs.out]; simp⟩, by simp [intOf]; omega⟩
      · go_wp2_with fail
        refine Reg.region_plain [0, 1, 0, 0, 12, 28, 63, 127] (by kernel_rfl) (by repeat (first | exact hN | refine Reg.NoQ.then ?_ | refine Reg.NoQ.inBlock ?_)) ?_
        go_wp2_with (at_builtin; refine wpList_app_new (w := wr.drew) row22 rfl _ _ rfl wb.heap.size (.slice A al.length c) al.length _ rfl hPH.out.acc [.int .i64 (k : Int)] 1 rfl rfl (by simp [Value.oneCell']) (by omega) hwb ?_; intro g cap' w3 hown hk3 hmv3 hg3'; have hm3 := hPH.out.blk.kept hk3 (fun e => own_blk_ne hPH.out.acc hPH.out.blk (by decide) e); have hcm3 := hm3.cell; have hfm3 := hm3.frozen; have hgl3 := hm3.lt; have hadd := hide (hPH.out.addAcc hk3 hown); clear hk3 hown hmv3 hg3' hm3)
        refine ⟨⟨k + 1, _, al ++ [k], by simp, by omega, by simp; omega, hadd.out, by show _ = _; rw [hrs.out]; simp⟩, by simp [intOf]; omega⟩
    · have e : k = od.length := by omega
      have he := hide e
      have hPH := hide hPP
      clear e hPP
      go_wp2_with fail
      have h1 := hl.out
      rw [he.out] at h1
      have h2 : accIdx ((od.map (clN' cl)).map (cAcc ac so)) = al := by rw [h1]; unfold accIdx; simp
      have h3 := hPH.out
      rw [← h2] at h3
      exact hQ _ _ _ _ _ _ _ _ _ _ _ _ _ _ _ _ _ _ _ _ _ wr _ h3

set_option maxHeartbeats 8000000 in
set_option maxRecDepth 100000 in
theorem can_bk {wA wb w : World} {g1 L gC gN g4 x i p : Nat} {vl vb va vo v3 v4 v5 : Value} {lf cl so od al : List Nat} {t : List (List (List Nat))} {ac : List Bool} {lv : List Leaf} {br : List Branch} (hT : CanT wA wb g1 L gC gN g4 vl vb va lf t ac cl vo od) (hC : CanC L ac lf cl so t) (hn : ac.length ≤ 300) (hO : OdS ac.length cl od) (hD : Disc L (cLeaf cl lf) (cBr cl so t) (od.map (clN' cl)))
    (hx : x < L) (hi : od[i]? = some p) (hP : PlS wb w g4 L od.length v3 v4 v5 al lv br) (hbr : br.length ≤ 900000)
    {u0 u2 u6 u8 u9 u10 u11 u12 u13 u14 u15 u19 u20 u21 u22 u23 u24 u25 u26 u27 u28 u29 u30 u31 u32 u33 u34 u35 u36 u37 u38 u39 u40 u41 u42 u43 u44 u45 u46 u47 u48 u49 u50 u51 u52 u53 u54 u55 u56 u57 u58 u59 u60 u61 u62 u63 u64 u65 u66 u67 u68 u69 u70 u71 u72 u73 u74 u75 u76 u77 u78 u79 u80 u81 u82 u83 u84 u85 u86 u87 u88 u89 u90 u91 u92 u93 u94 u95 u96 u97 u98 u99 u100 u101 u102 u103 u104 u105 u106 u107 u108 u109 u110 u111 u112 u113 u114 u115 u116 u117 u118 u119 u120 u121 u122 u123 u124 u125 u126 u127 u128 u129 u130 u131 u132 u133 u134 u135 u136 u137 u138 u139 u140 u141 u142 u143 u144 u145 u146 u147 u148 u149 u150 u151 u152 u153 u154 u155 u156 u157 u158 u159 u160 u161 u162 u163 u164 u165 u166 u167 u168 u169 u170 u171 u172 u173 u174 u175 u176 u177 u178 u179 u180 u181 u182 u183 u184 u185 u186 u187 u188 u189 u190 u191 u192 u193 u194 u195 u196 u197 u198 u199 u200 u201 u202 u203 u204 u205 u206 u207 u208 u209 u210 u211 u212 u213 u214 u215 u216 u217 u218 u219 u220 u221 u222 u223 u224 u225 : Value}
    {Q : Exit → Act → World → Prop} (hN : Reg.NoQ Q)
    (hQ : ∀ (x18 x187 x188 x189 x190 x191 x192 x193 x194 x195 x196 x197 x198 x199 x200 x201 x202 x203 x204 x205 x206 x207 x208 x209 x210 x211 x212 x213 x214 x215 x216 x217 x218 x219 x220 x221 x222 x223 x224 : Value) (w' : World) (v : Value), PlS wb w' g4 L od.length v3 v4 v al lv (br ++ plJ od.length (ordTab (od.map (clN' cl)) (cBr cl so t) L) x i) → Q (.exit 18) ⟨List.toArray (u0 :: (.pointer (some ⟨g1, 0, none⟩)) :: u2 :: (.slice (some ⟨gC, 0, none⟩) ac.length ac.length) :: (.pointer (some ⟨g4, 0, none⟩)) :: (.slice (some ⟨gN, 0, none⟩) ac.length ac.length) :: u6 :: vo :: u8 :: u9 :: u10 :: u11 :: u12 :: u13 :: u14 :: u15 :: 
      (.int .i64 x) :: (.int .i64 i) :: x18 :: u19 :: u20 :: u21 :: u22 :: u23 :: u24 :: u25 :: u26 :: u27 :: u28 :: u29 :: u30 :: u31 :: u32 :: u33 :: u34 :: u35 :: u36 :: u37 :: u38 :: u39 :: u40 :: u41 :: u42 :: u43 :: u44 :: u45 :: u46 :: u47 :: u48 :: u49 :: 
      u50 :: u51 :: u52 :: u53 :: u54 :: u55 :: u56 :: u57 :: u58 :: u59 :: u60 :: u61 :: u62 :: u63 :: u64 :: u65 :: u66 :: u67 :: u68 :: u69 :: u70 :: u71 :: u72 :: u73 :: u74 :: u75 :: u76 :: u77 :: u78 :: u79 :: u80 :: u81 :: u82 :: u83 :: u84 :: u85 :: u86 :: 
      u87 :: u88 :: u89 :: u90 :: u91 :: u92 :: u93 :: u94 :: u95 :: u96 :: u97 :: u98 :: u99 :: u100 :: u101 :: u102 :: u103 :: u104 :: u105 :: u106 :: u107 :: u108 :: u109 :: u110 :: u111 :: u112 :: u113 :: u114 :: u115 :: u116 :: u117 :: u118 :: u119 :: u120 :: 
      u121 :: u122 :: u123 :: u124 :: u125 :: u126 :: u127 :: u128 :: u129 :: u130 :: u131 :: u132 :: u133 :: u134 :: u135 :: u136 :: u137 :: u138 :: u139 :: u140 :: u141 :: u142 :: u143 :: u144 :: u145 :: u146 :: u147 :: u148 :: u149 :: u150 :: u151 :: u152 :: u153 :: 
      u154 :: u155 :: u156 :: u157 :: u158 :: u159 :: u160 :: u161 :: u162 :: u163 :: u164 :: u165 :: u166 :: u167 :: u168 :: u169 :: u170 :: u171 :: u172 :: u173 :: u174 :: u175 :: u176 :: u177 :: u178 :: u179 :: u180 :: u181 :: u182 :: u183 :: u184 :: u185 :: u186 :: 
      x187 :: x188 :: x189 :: x190 :: x191 :: x192 :: x193 :: x194 :: x195 :: x196 :: x197 :: x198 :: x199 :: x200 :: x201 :: x202 :: x203 :: x204 :: x205 :: x206 :: x207 :: x208 :: x209 :: x210 :: x211 :: x212 :: x213 :: x214 :: x215 :: x216 :: x217 :: x218 :: x219 :: 
      x220 :: x221 :: x222 :: x223 :: x224 :: u225 :: []), []⟩ w') :
    (Code.loop (loopBody Try.f60 9)).wp Try.prog Q ⟨List.toArray (u0 :: (.pointer (some ⟨g1, 0, none⟩)) :: u2 :: (.slice (some ⟨gC, 0, none⟩) ac.length ac.length) :: (.pointer (some ⟨g4, 0, none⟩)) :: (.slice (some ⟨gN, 0, none⟩) ac.length ac.length) :: u6 :: vo :: u8 :: u9 :: u10 :: u11 :: u12 :: u13 :: u14 :: u15 :: 
      (.int .i64 x) :: (.int .i64 i) :: (.int .i64 0) :: u19 :: u20 :: u21 :: u22 :: u23 :: u24 :: u25 :: u26 :: u27 :: u28 :: u29 :: u30 :: u31 :: u32 :: u33 :: u34 :: u35 :: u36 :: u37 :: u38 :: u39 :: u40 :: u41 :: u42 :: u43 :: u44 :: u45 :: u46 :: u47 :: u48 :: 
      u49 :: u50 :: u51 :: u52 :: u53 :: u54 :: u55 :: u56 :: u57 :: u58 :: u59 :: u60 :: u61 :: u62 :: u63 :: u64 :: u65 :: u66 :: u67 :: u68 :: u69 :: u70 :: u71 :: u72 :: u73 :: u74 :: u75 :: u76 :: u77 :: u78 :: u79 :: u80 :: u81 :: u82 :: u83 :: u84 :: u85 :: 
      u86 :: u87 :: u88 :: u89 :: u90 :: u91 :: u92 :: u93 :: u94 :: u95 :: u96 :: u97 :: u98 :: u99 :: u100 :: u101 :: u102 :: u103 :: u104 :: u105 :: u106 :: u107 :: u108 :: u109 :: u110 :: u111 :: u112 :: u113 :: u114 :: u115 :: u116 :: u117 :: u118 :: u119 :: 
      u120 :: u121 :: u122 :: u123 :: u124 :: u125 :: u126 :: u127 :: u128 :: u129 :: u130 :: u131 :: u132 :: u133 :: u134 :: u135 :: u136 :: u137 :: u138 :: u139 :: u140 :: u141 :: u142 :: u143 :: u144 :: u145 :: u146 :: u147 :: u148 :: u149 :: u150 :: u151 :: u152 :: 
      u153 :: u154 :: u155 :: u156 :: u157 :: u158 :: u159 :: u160 :: u161 :: u162 :: u163 :: u164 :: u165 :: u166 :: u167 :: u168 :: u169 :: u170 :: u171 :: u172 :: u173 :: u174 :: u175 :: u176 :: u177 :: u178 :: u179 :: u180 :: u181 :: u182 :: u183 :: u184 :: u185 :: 
      u186 :: u187 :: u188 :: u189 :: u190 :: u191 :: u192 :: u193 :: u194 :: u195 :: u196 :: u197 :: u198 :: u199 :: u200 :: u201 :: u202 :: u203 :: u204 :: u205 :: u206 :: u207 :: u208 :: u209 :: u210 :: u211 :: u212 :: u213 :: u214 :: u215 :: u216 :: u217 :: u218 :: 
      u219 :: u220 :: u221 :: u222 :: u223 :: u224 :: u225 :: []), []⟩ w := by
  conv => arg 2; arg 1; whnf
  have hol := hO.len hC.lt
  have hclH := hide hC.lt
  have hCH := hide hC
  have hOH := hide hO
  have hTH := hide hT
  have hDH := hide hD
  have hiH := hide hi
  have hil := lt_of_get hi
  clear hC hO hT hD hi
  obtain ⟨Ao, co, rfl⟩ := slice_of_own hTH.out.ord
  go_loopw [18] (fun kk wr => ∃ (k : Nat) (v : Value) (br' : List Branch), kk = .int .i64 (k : Int) ∧ k ≤ od.length ∧ br'.length ≤ br.length + k ∧ PlS wb wr g4 L od.length v3 v4 v al lv br' ∧
    Hid (br' = br ++ (List.range k).map fun (k : Nat) => ⟨(x : Int), (i : Int), (k : Int), (mbr (ordTab (od.map (clN' cl)) (cBr cl so t) L) x i k : Int)⟩)) (fun kk _ => od.length - (intOf kk).toNat)
  case atStart => exact ⟨0, _, br, rfl, Nat.zero_le _, by simp, hP, by show _ = _; simp⟩
  case round =>
    obtain ⟨k, v, br', rfl, hk, hbl, hPP, hl⟩ := hrel
    obtain ⟨hX, hnum, hord⟩ := hTH.out.keep hPP.kept
    obtain ⟨A, c, rfl⟩ := slice_of_own hPP.brs
    by_cases hlt : k < od.length
    · obtain ⟨q, hq⟩ := get_lt hlt
      have hpn := hOH.out.lt p (List.mem_of_getElem? hiH.out)
      have hqn := hOH.out.lt q (List.mem_of_getElem? hq)
      obtain ⟨go, co', hv, hcp⟩ := own_get hord (map_get (f := encN) hiH.out)
      injection hv with hv _ hv3
      subst hv hv3
      have hcq := own_cell hord (map_get (f := encN) hq)
      simp only [encN] at hcp hcq
      have hc1 := hX.b.cell
      obtain ⟨gv, cv, gi, ci, gj, cj, rfl, ht⟩ := hX.t.tab
      have m1 := (ht x hx).1
      have m2 := ((ht x hx).2 p hpn).1
      have m3 := ((ht x hx).2 p hpn).2 q hqn
      have hsn := hCH.out.ok.isM.br_lt x p q hx hpn hqn
      have hcb := cls_br hCH.out.ok hCH.out.d hCH.out.r hx hpn hqn
      have hlp := map_get (f := clN' cl) hiH.out
      have hlq := map_get (f := clN' cl) hq
      have hmem : clN' cl (mbr t x p q) ∈ od.map (clN' cl) := by
        rw [hcb]
        exact (hDH.out.mem _).2 (.br x _ _ hx ((hDH.out.mem _).1 (List.mem_of_getElem? hlp)) ((hDH.out.mem _).1 (List.mem_of_getElem? hlq)))
      have hval : mbr (ordTab (od.map (clN' cl)) (cBr cl so t) L) x i k = numL (od.map (clN' cl)) (clN' cl (mbr t x p q)) := by rw [ordTab_get hx hlp hlq, hcb]; rfl
      have hcs := hX.cell hsn
      have hcn := hclH.out _ hsn
      have hcN : wr.cell? ⟨gN, clN' cl (mbr t x p q), none⟩ = some (.int .i64 (numL (od.map (clN' cl)) (clN' cl (mbr t x p q)) : Int)) := by rw [hnum.cell, rangeC_get _ hcn, numF_old hmem]
      obtain ⟨e, he⟩ : ∃ e, numL (od.map (clN' cl)) (clN' cl (mbr t x p q)) = e := ⟨_, rfl⟩
      rw [he] at hval hcN
      have hfin := hide (show (List.range (k + 1)).map (fun (k : Nat) => (⟨(x : Int), (i : Int), (k : Int), (mbr (ordTab (od.map (clN' cl)) (cBr cl so t) L) x i k : Int)⟩ : Branch)) = (List.range k).map (fun (k : Nat) => (⟨(x : Int), (i : Int), (k : Int), (mbr (ordTab (od.map (clN' cl)) (cBr cl so t) L) x i k : Int)⟩ : Branch)) ++ [⟨(x : Int), (i : Int), (k : Int), (e : Int)⟩] by rw [List.range_succ, List.map_append, ← hval]; rfl)
      obtain ⟨s, hs⟩ : ∃ s, mbr t x p q = s := ⟨_, rfl⟩
      rw [hs] at m3 hsn hcs hcn hcN
      obtain ⟨c', hc'⟩ : ∃ c', clN' cl s = c' := ⟨_, rfl⟩
      rw [hc'] at hcs hcn hcN
      have hc4 := hPP.blk.cell
      have hwb := hPP.kept.size
      have hPd := hide (hPP.keep0 ((Kept.refl wr (fun _ => False)).drew))
      clear hs hc' he hval hmem hlp hlq hcb hq ht hnum hord hPP
      go_wp2_with fail
      refine Reg.region_cut [0, 1, 0, 0, 0, 0, 0, 0, 128, 0, 896, 1920, 0, 0, 12288, 28672, 65408, 130944, 0, 0, 786432, 1835008, 4194176, 8388480, 16777152, 33554368, 67108832, 134217696, 268435452, 536870908, 1073741823, 2147483647, 4294967295] [0, 1, 2, 3, 4, 5, 6, 7, 8, 9, 10, 11, 12, 13, 14, 15, 16, 17, 18, 19, 20, 21, 22, 23, 24, 25, 26, 27, 28, 29, 30, 31, 32] (by kernel_rfl) (by repeat (first | exact hN | refine Reg.NoQ.then ?_ | refine Reg.NoQ.inBlock ?_)) ?_
      refine Reg.rest_walkE [0, 1, 2, 3, 4, 5, 6, 7, 8, 9, 10, 11, 12, 13, 14, 15, 16, 17, 18, 19, 20, 21, 22, 23, 24, 25, 26, 27] _ rfl rfl (by kernel_rfl) ?_
      intro Qf hQf
      go_wp2_with fail
      try (rw [List.filterMap_nil]; go_wp2_with fail)
      refine Reg.rest_act' 28 _ [1] rfl (by kernel_rfl) ?_
      intro Qf hQf
      simp only [List.getElem_toArray, List.getElem_cons_succ, List.getElem_cons_zero]
      go_wp2_with fail
      refine ⟨Reg.same_below (Below.refl _ _) [1] rfl, ?_⟩
      refine Reg.rest_walkE [29] _ rfl rfl (by kernel_rfl) ?_
      intro Qf hQf
      go_wp2_with fail
      try (rw [List.filterMap_nil]; go_wp2_with fail)
      refine Reg.rest_act' 30 _ [] rfl (by kernel_rfl) ?_
      intro Qf hQf
      simp only [List.getElem_toArray, List.getElem_cons_succ, List.getElem_cons_zero]
      refine wpList_app_new (w := wr.drew) row24 rfl _ _ rfl wb.heap.size (.slice A br'.length c) br'.length _ rfl hPd.out.brs [.int .i64 (x : Int), .int .i64 (i : Int), .int .i64 (k : Int), .int .i64 (e : Int)] 1 rfl rfl (by simp [Value.oneCell']) (by omega) hwb ?_
      intro g cap' w3 hown hk3 hmv3 hg3'
      have hm3 := hPd.out.blk.kept hk3 (fun e => own_blk_ne hPd.out.brs hPd.out.blk (by decide) e)
      have hcm3 := hm3.cell
      have hfm3 := hm3.frozen
      have hgl3 := hm3.lt
      have hPf := hide (hPd.out.addBr (e := ⟨(x : Int), (i : Int), (k : Int), (e : Int)⟩) hk3 hown)
      refine hQf _ _ ⟨fun r hr => absurd hr (List.not_mem_nil), ?_⟩
      clear hQf hk3 hown hmv3 hg3' hm3
      refine Reg.rest_walkE [31, 32] _ rfl rfl (by kernel_rfl) ?_
      intro Qf hQf
      go_wp2_with fail
      refine hQf _ _ (Reg.rest_end ?_)
      go_wp2_with fail
      refine ⟨⟨k + 1, _, br' ++ [⟨(x : Int), (i : Int), (k : Int), (e : Int)⟩], by simp, by omega, by simp; omega, hPf.out, ?_⟩, by simp [intOf]; omega⟩
      show _ = _
      rw [hfin.out, ← List.append_assoc, ← hl.out]
    · have e : k = od.length := by omega
      have he := hide e
      have hPH := hide hPP
      clear e hPP
      go_wp2_with fail
      have h1 := hl.out
      rw [he.out] at h1
      have h3 := hPH.out
      rw [h1] at h3
      exact hQ _ _ _ _ _ _ _ _ _ _ _ _ _ _ _ _ _ _ _ _ _ _ _ _ _ _ _ _ _ _ _ _ _ _ _ _ _ _ _ wr _ h3
end Go.Proofs.Ytnimlcbgeiajiaa

namespace Go.Proofs.Ytnimlcbgeiajiaa
open Go.RowKit

set_option maxHeartbeats 8000000 in
set_option maxRecDepth 100000 in
theorem can_bi {wA wb w : World} {g1 L gC gN g4 x : Nat} {vl vb va vo v3 v4 v5 : Value} {lf cl so od al : List Nat} {t : List (List (List Nat))} {ac : List Bool} {lv : List Leaf} {br : List Branch} (hT : CanT wA wb g1 L gC gN g4 vl vb va lf t ac cl vo od) (hC : CanC L ac lf cl so t) (hn : ac.length ≤ 300) (hO : OdS ac.length cl od) (hD : Disc L (cLeaf cl lf) (cBr cl so t) (od.map (clN' cl)))
    (hx : x < L) (hP : PlS wb w g4 L od.length v3 v4 v5 al lv br) (hbr : br.length ≤ 800000)
    {u0 u2 u6 u8 u9 u10 u11 u12 u13 u14 u15 u18 u19 u20 u21 u22 u23 u24 u25 u26 u27 u28 u29 u30 u31 u32 u33 u34 u35 u36 u37 u38 u39 u40 u41 u42 u43 u44 u45 u46 u47 u48 u49 u50 u51 u52 u53 u54 u55 u56 u57 u58 u59 u60 u61 u62 u63 u64 u65 u66 u67 u68 u69 u70 u71 u72 u73 u74 u75 u76 u77 u78 u79 u80 u81 u82 u83 u84 u85 u86 u87 u88 u89 u90 u91 u92 u93 u94 u95 u96 u97 u98 u99 u100 u101 u102 u103 u104 u105 u106 u107 u108 u109 u110 u111 u112 u113 u114 u115 u116 u117 u118 u119 u120 u121 u122 u123 u124 u125 u126 u127 u128 u129 u130 u131 u132 u133 u134 u135 u136 u137 u138 u139 u140 u141 u142 u143 u144 u145 u146 u147 u148 u149 u150 u151 u152 u153 u154 u155 u156 u157 u158 u159 u160 u161 u162 u163 u164 u165 u166 u167 u168 u169 u170 u171 u172 u173 u174 u175 u176 u177 u178 u179 u180 u181 u182 u183 u184 u185 u186 u187 u188 u189 u190 u191 u192 u193 u194 u195 u196 u197 u198 u199 u200 u201 u202 u203 u204 u205 u206 u207 u208 u209 u210 u211 u212 u213 u214 u215 u216 u217 u218 u219 u220 u221 u222 u223 u224 u225 : Value}
    {Q : Exit → Act → World → Prop} (hN : Reg.NoQ Q)
    (hQ : ∀ (x17 x18 x181 x182 x183 x184 x185 x186 x187 x188 x189 x190 x191 x192 x193 x194 x195 x196 x197 x198 x199 x200 x201 x202 x203 x204 x205 x206 x207 x208 x209 x210 x211 x212 x213 x214 x215 x216 x217 x218 x219 x220 x221 x222 x223 x224 : Value) (w' : World) (v : Value), PlS wb w' g4 L od.length v3 v4 v al lv (br ++ plI od.length (ordTab (od.map (clN' cl)) (cBr cl so t) L) x) → Q (.exit 16) ⟨List.toArray (u0 :: (.pointer (some ⟨g1, 0, none⟩)) :: u2 :: (.slice (some ⟨gC, 0, none⟩) ac.length ac.length) :: (.pointer (some ⟨g4, 0, none⟩)) :: (.slice (some ⟨gN, 0, none⟩) ac.length ac.length) :: u6 :: vo :: u8 :: u9 :: u10 :: u11 :: u12 :: u13 :: u14 :: u15 :: 
      (.int .i64 x) :: x17 :: x18 :: u19 :: u20 :: u21 :: u22 :: u23 :: u24 :: u25 :: u26 :: u27 :: u28 :: u29 :: u30 :: u31 :: u32 :: u33 :: u34 :: u35 :: u36 :: u37 :: u38 :: u39 :: u40 :: u41 :: u42 :: u43 :: u44 :: u45 :: u46 :: u47 :: u48 :: u49 :: u50 :: u51 :: 
      u52 :: u53 :: u54 :: u55 :: u56 :: u57 :: u58 :: u59 :: u60 :: u61 :: u62 :: u63 :: u64 :: u65 :: u66 :: u67 :: u68 :: u69 :: u70 :: u71 :: u72 :: u73 :: u74 :: u75 :: u76 :: u77 :: u78 :: u79 :: u80 :: u81 :: u82 :: u83 :: u84 :: u85 :: u86 :: u87 :: u88 :: 
      u89 :: u90 :: u91 :: u92 :: u93 :: u94 :: u95 :: u96 :: u97 :: u98 :: u99 :: u100 :: u101 :: u102 :: u103 :: u104 :: u105 :: u106 :: u107 :: u108 :: u109 :: u110 :: u111 :: u112 :: u113 :: u114 :: u115 :: u116 :: u117 :: u118 :: u119 :: u120 :: u121 :: u122 :: 
      u123 :: u124 :: u125 :: u126 :: u127 :: u128 :: u129 :: u130 :: u131 :: u132 :: u133 :: u134 :: u135 :: u136 :: u137 :: u138 :: u139 :: u140 :: u141 :: u142 :: u143 :: u144 :: u145 :: u146 :: u147 :: u148 :: u149 :: u150 :: u151 :: u152 :: u153 :: u154 :: u155 :: 
      u156 :: u157 :: u158 :: u159 :: u160 :: u161 :: u162 :: u163 :: u164 :: u165 :: u166 :: u167 :: u168 :: u169 :: u170 :: u171 :: u172 :: u173 :: u174 :: u175 :: u176 :: u177 :: u178 :: u179 :: u180 :: x181 :: x182 :: x183 :: x184 :: x185 :: x186 :: x187 :: x188 :: 
      x189 :: x190 :: x191 :: x192 :: x193 :: x194 :: x195 :: x196 :: x197 :: x198 :: x199 :: x200 :: x201 :: x202 :: x203 :: x204 :: x205 :: x206 :: x207 :: x208 :: x209 :: x210 :: x211 :: x212 :: x213 :: x214 :: x215 :: x216 :: x217 :: x218 :: x219 :: x220 :: x221 :: 
      x222 :: x223 :: x224 :: u225 :: []), []⟩ w') :
    (Code.loop (loopBody Try.f60 8)).wp Try.prog Q ⟨List.toArray (u0 :: (.pointer (some ⟨g1, 0, none⟩)) :: u2 :: (.slice (some ⟨gC, 0, none⟩) ac.length ac.length) :: (.pointer (some ⟨g4, 0, none⟩)) :: (.slice (some ⟨gN, 0, none⟩) ac.length ac.length) :: u6 :: vo :: u8 :: u9 :: u10 :: u11 :: u12 :: u13 :: u14 :: u15 :: 
      (.int .i64 x) :: (.int .i64 0) :: u18 :: u19 :: u20 :: u21 :: u22 :: u23 :: u24 :: u25 :: u26 :: u27 :: u28 :: u29 :: u30 :: u31 :: u32 :: u33 :: u34 :: u35 :: u36 :: u37 :: u38 :: u39 :: u40 :: u41 :: u42 :: u43 :: u44 :: u45 :: u46 :: u47 :: u48 :: u49 :: 
      u50 :: u51 :: u52 :: u53 :: u54 :: u55 :: u56 :: u57 :: u58 :: u59 :: u60 :: u61 :: u62 :: u63 :: u64 :: u65 :: u66 :: u67 :: u68 :: u69 :: u70 :: u71 :: u72 :: u73 :: u74 :: u75 :: u76 :: u77 :: u78 :: u79 :: u80 :: u81 :: u82 :: u83 :: u84 :: u85 :: u86 :: 
      u87 :: u88 :: u89 :: u90 :: u91 :: u92 :: u93 :: u94 :: u95 :: u96 :: u97 :: u98 :: u99 :: u100 :: u101 :: u102 :: u103 :: u104 :: u105 :: u106 :: u107 :: u108 :: u109 :: u110 :: u111 :: u112 :: u113 :: u114 :: u115 :: u116 :: u117 :: u118 :: u119 :: u120 :: 
      u121 :: u122 :: u123 :: u124 :: u125 :: u126 :: u127 :: u128 :: u129 :: u130 :: u131 :: u132 :: u133 :: u134 :: u135 :: u136 :: u137 :: u138 :: u139 :: u140 :: u141 :: u142 :: u143 :: u144 :: u145 :: u146 :: u147 :: u148 :: u149 :: u150 :: u151 :: u152 :: u153 :: 
      u154 :: u155 :: u156 :: u157 :: u158 :: u159 :: u160 :: u161 :: u162 :: u163 :: u164 :: u165 :: u166 :: u167 :: u168 :: u169 :: u170 :: u171 :: u172 :: u173 :: u174 :: u175 :: u176 :: u177 :: u178 :: u179 :: u180 :: u181 :: u182 :: u183 :: u184 :: u185 :: u186 :: 
      u187 :: u188 :: u189 :: u190 :: u191 :: u192 :: u193 :: u194 :: u195 :: u196 :: u197 :: u198 :: u199 :: u200 :: u201 :: u202 :: u203 :: u204 :: u205 :: u206 :: u207 :: u208 :: u209 :: u210 :: u211 :: u212 :: u213 :: u214 :: u215 :: u216 :: u217 :: u218 :: u219 :: 
      u220 :: u221 :: u222 :: u223 :: u224 :: u225 :: []), []⟩ w := by
  conv => arg 2; arg 1; whnf
  have hol := hO.len hC.lt
  have hCH := hide hC
  have hOH := hide hO
  have hTH := hide hT
  have hDH := hide hD
  clear hC hO hT hD
  obtain ⟨Ao, co, rfl⟩ := slice_of_own hTH.out.ord
  go_loopw [17] (fun ii wr => ∃ (i : Nat) (v : Value) (br' : List Branch), ii = .int .i64 (i : Int) ∧ i ≤ od.length ∧ PlS wb wr g4 L od.length v3 v4 v al lv br' ∧ Hid (br' = br ++ (List.range i).flatMap fun (i : Nat) => plJ od.length (ordTab (od.map (clN' cl)) (cBr cl so t) L) x i)) (fun ii _ => od.length - (intOf ii).toNat)
  case atStart => exact ⟨0, _, br, rfl, Nat.zero_le _, hP, by show _ = _; simp⟩
  case round =>
    obtain ⟨i, v, br', rfl, hi, hPP, hl⟩ := hrel
    have hPH := hide hPP
    clear hPP
    have hlen : br'.length ≤ 900000 := by
      rw [hl.out, List.length_append]
      have h1 := plI_len od.length i (ordTab (od.map (clN' cl)) (cBr cl so t) L) x
      have h2 : i * od.length ≤ 300 * 300 := Nat.mul_le_mul (by omega) (by omega)
      omega
    by_cases hlt : i < od.length
    · obtain ⟨p, hp⟩ := get_lt hlt
      have hpH := hide hp
      clear hp
      go_wp2_with fail
      refine can_bk hTH.out hCH.out hn hOH.out hDH.out hx hpH.out hPH.out hlen ?_ ?_
      · repeat (first | exact hN | refine Reg.NoQ.then ?_ | refine Reg.NoQ.inBlock ?_)
      · iterate 39 (intro _)
        intro w2 v2 hP2
        have hP3 := hide hP2
        clear hP2
        go_wp2_with fail
        refine ⟨⟨i + 1, _, _, by simp, by omega, hP3.out, ?_⟩, by simp [intOf]; omega⟩
        show _ = _
        rw [rangeSnoc, ← List.append_assoc, ← hl.out]
    · have e : i = od.length := by omega
      have he := hide e
      clear e
      go_wp2_with fail
      have h1 := hl.out
      rw [he.out] at h1
      have h3 := hPH.out
      rw [h1] at h3
      exact hQ _ _ _ _ _ _ _ _ _ _ _ _ _ _ _ _ _ _ _ _ _ _ _ _ _ _ _ _ _ _ _ _ _ _ _ _ _ _ _ _ _ _ _ _ _ _ wr _ h3

set_option maxHeartbeats 8000000 in
set_option maxRecDepth 100000 in
theorem can_lx {wA wb w : World} {g1 L gC gN g4 : Nat} {vl vb va vo v3 : Value} {lf cl so od al : List Nat} {t : List (List (List Nat))} {ac : List Bool} (hT : CanT wA wb g1 L gC gN g4 vl vb va lf t ac cl vo od) (hC : CanC L ac lf cl so t) (hn : ac.length ≤ 300) (hL : L ≤ 8) (hO : OdS ac.length cl od) (hD : Disc L (cLeaf cl lf) (cBr cl so t) (od.map (clN' cl)))
    (hP : PlS wb w g4 L od.length v3 (.slice none 0 0) (.slice none 0 0) al [] [])
    {u0 u2 u6 u8 u9 u10 u11 u12 u13 u14 u15 u17 u18 u19 u20 u21 u22 u23 u24 u25 u26 u27 u28 u29 u30 u31 u32 u33 u34 u35 u36 u37 u38 u39 u40 u41 u42 u43 u44 u45 u46 u47 u48 u49 u50 u51 u52 u53 u54 u55 u56 u57 u58 u59 u60 u61 u62 u63 u64 u65 u66 u67 u68 u69 u70 u71 u72 u73 u74 u75 u76 u77 u78 u79 u80 u81 u82 u83 u84 u85 u86 u87 u88 u89 u90 u91 u92 u93 u94 u95 u96 u97 u98 u99 u100 u101 u102 u103 u104 u105 u106 u107 u108 u109 u110 u111 u112 u113 u114 u115 u116 u117 u118 u119 u120 u121 u122 u123 u124 u125 u126 u127 u128 u129 u130 u131 u132 u133 u134 u135 u136 u137 u138 u139 u140 u141 u142 u143 u144 u145 u146 u147 u148 u149 u150 u151 u152 u153 u154 u155 u156 u157 u158 u159 u160 u161 u162 u163 u164 u165 u166 u167 u168 u169 u170 u171 u172 u173 u174 u175 u176 u177 u178 u179 u180 u181 u182 u183 u184 u185 u186 u187 u188 u189 u190 u191 u192 u193 u194 u195 u196 u197 u198 u199 u200 u201 u202 u203 u204 u205 u206 u207 u208 u209 u210 u211 u212 u213 u214 u215 u216 u217 u218 u219 u220 u221 u222 u223 u224 u225 : Value}
    {Q : Exit → Act → World → Prop} (hN : Reg.NoQ Q)
    (hQ : ∀ (x16 x17 x18 x157 x158 x159 x160 x161 x162 x163 x164 x165 x166 x167 x168 x169 x170 x171 x172 x173 x174 x175 x176 x177 x178 x179 x180 x181 x182 x183 x184 x185 x186 x187 x188 x189 x190 x191 x192 x193 x194 x195 x196 x197 x198 x199 x200 x201 x202 x203 x204 x205 x206 x207 x208 x209 x210 x211 x212 x213 x214 x215 x216 x217 x218 x219 x220 x221 x222 x223 x224 : Value) (w' : World) (v v' : Value), PlS wb w' g4 L od.length v3 v v' al (plLv (ordLeaf (od.map (clN' cl)) (cLeaf cl lf) L)) (plBr L od.length (ordTab (od.map (clN' cl)) (cBr cl so t) L)) → Q (.exit 14) ⟨List.toArray (u0 :: (.pointer (some ⟨g1, 0, none⟩)) :: u2 :: (.slice (some ⟨gC, 0, none⟩) ac.length ac.length) :: (.pointer (some ⟨g4, 0, none⟩)) :: (.slice (some ⟨gN, 0, none⟩) ac.length ac.length) :: u6 :: vo :: u8 :: u9 :: u10 :: u11 :: u12 :: u13 :: u14 :: u15 :: x16 :: 
      x17 :: x18 :: u19 :: u20 :: u21 :: u22 :: u23 :: u24 :: u25 :: u26 :: u27 :: u28 :: u29 :: u30 :: u31 :: u32 :: u33 :: u34 :: u35 :: u36 :: u37 :: u38 :: u39 :: u40 :: u41 :: u42 :: u43 :: u44 :: u45 :: u46 :: u47 :: u48 :: u49 :: u50 :: u51 :: u52 :: u53 :: 
      u54 :: u55 :: u56 :: u57 :: u58 :: u59 :: u60 :: u61 :: u62 :: u63 :: u64 :: u65 :: u66 :: u67 :: u68 :: u69 :: u70 :: u71 :: u72 :: u73 :: u74 :: u75 :: u76 :: u77 :: u78 :: u79 :: u80 :: u81 :: u82 :: u83 :: u84 :: u85 :: u86 :: u87 :: u88 :: u89 :: u90 :: 
      u91 :: u92 :: u93 :: u94 :: u95 :: u96 :: u97 :: u98 :: u99 :: u100 :: u101 :: u102 :: u103 :: u104 :: u105 :: u106 :: u107 :: u108 :: u109 :: u110 :: u111 :: u112 :: u113 :: u114 :: u115 :: u116 :: u117 :: u118 :: u119 :: u120 :: u121 :: u122 :: u123 :: u124 :: 
      u125 :: u126 :: u127 :: u128 :: u129 :: u130 :: u131 :: u132 :: u133 :: u134 :: u135 :: u136 :: u137 :: u138 :: u139 :: u140 :: u141 :: u142 :: u143 :: u144 :: u145 :: u146 :: u147 :: u148 :: u149 :: u150 :: u151 :: u152 :: u153 :: u154 :: u155 :: u156 :: x157 :: 
      x158 :: x159 :: x160 :: x161 :: x162 :: x163 :: x164 :: x165 :: x166 :: x167 :: x168 :: x169 :: x170 :: x171 :: x172 :: x173 :: x174 :: x175 :: x176 :: x177 :: x178 :: x179 :: x180 :: x181 :: x182 :: x183 :: x184 :: x185 :: x186 :: x187 :: x188 :: x189 :: x190 :: 
      x191 :: x192 :: x193 :: x194 :: x195 :: x196 :: x197 :: x198 :: x199 :: x200 :: x201 :: x202 :: x203 :: x204 :: x205 :: x206 :: x207 :: x208 :: x209 :: x210 :: x211 :: x212 :: x213 :: x214 :: x215 :: x216 :: x217 :: x218 :: x219 :: x220 :: x221 :: x222 :: x223 :: 
      x224 :: u225 :: []), []⟩ w') :
    (Code.loop (loopBody Try.f60 7)).wp Try.prog Q ⟨List.toArray (u0 :: (.pointer (some ⟨g1, 0, none⟩)) :: u2 :: (.slice (some ⟨gC, 0, none⟩) ac.length ac.length) :: (.pointer (some ⟨g4, 0, none⟩)) :: (.slice (some ⟨gN, 0, none⟩) ac.length ac.length) :: u6 :: vo :: u8 :: u9 :: u10 :: u11 :: u12 :: u13 :: u14 :: u15 :: 
      (.int .i64 0) :: u17 :: u18 :: u19 :: u20 :: u21 :: u22 :: u23 :: u24 :: u25 :: u26 :: u27 :: u28 :: u29 :: u30 :: u31 :: u32 :: u33 :: u34 :: u35 :: u36 :: u37 :: u38 :: u39 :: u40 :: u41 :: u42 :: u43 :: u44 :: u45 :: u46 :: u47 :: u48 :: u49 :: u50 :: u51 :: 
      u52 :: u53 :: u54 :: u55 :: u56 :: u57 :: u58 :: u59 :: u60 :: u61 :: u62 :: u63 :: u64 :: u65 :: u66 :: u67 :: u68 :: u69 :: u70 :: u71 :: u72 :: u73 :: u74 :: u75 :: u76 :: u77 :: u78 :: u79 :: u80 :: u81 :: u82 :: u83 :: u84 :: u85 :: u86 :: u87 :: u88 :: 
      u89 :: u90 :: u91 :: u92 :: u93 :: u94 :: u95 :: u96 :: u97 :: u98 :: u99 :: u100 :: u101 :: u102 :: u103 :: u104 :: u105 :: u106 :: u107 :: u108 :: u109 :: u110 :: u111 :: u112 :: u113 :: u114 :: u115 :: u116 :: u117 :: u118 :: u119 :: u120 :: u121 :: u122 :: 
      u123 :: u124 :: u125 :: u126 :: u127 :: u128 :: u129 :: u130 :: u131 :: u132 :: u133 :: u134 :: u135 :: u136 :: u137 :: u138 :: u139 :: u140 :: u141 :: u142 :: u143 :: u144 :: u145 :: u146 :: u147 :: u148 :: u149 :: u150 :: u151 :: u152 :: u153 :: u154 :: u155 :: 
      u156 :: u157 :: u158 :: u159 :: u160 :: u161 :: u162 :: u163 :: u164 :: u165 :: u166 :: u167 :: u168 :: u169 :: u170 :: u171 :: u172 :: u173 :: u174 :: u175 :: u176 :: u177 :: u178 :: u179 :: u180 :: u181 :: u182 :: u183 :: u184 :: u185 :: u186 :: u187 :: u188 :: 
      u189 :: u190 :: u191 :: u192 :: u193 :: u194 :: u195 :: u196 :: u197 :: u198 :: u199 :: u200 :: u201 :: u202 :: u203 :: u204 :: u205 :: u206 :: u207 :: u208 :: u209 :: u210 :: u211 :: u212 :: u213 :: u214 :: u215 :: u216 :: u217 :: u218 :: u219 :: u220 :: u221 :: 
      u222 :: u223 :: u224 :: u225 :: []), []⟩ w := by
  conv => arg 2; arg 1; whnf
  have hol := hO.len hC.lt
  have hclH := hide hC.lt
  have hCH := hide hC
  have hOH := hide hO
  have hTH := hide hT
  have hDH := hide hD
  clear hC hO hT hD
  obtain ⟨Ao, co, rfl⟩ := slice_of_own hTH.out.ord
  go_loopw [16] (fun xx wr => ∃ (x : Nat) (v v' : Value) (lv : List Leaf) (br : List Branch), xx = .int .i64 (x : Int) ∧ x ≤ L ∧ lv.length ≤ x ∧ PlS wb wr g4 L od.length v3 v v' al lv br ∧
    Hid (lv = (List.range x).map fun (x : Nat) => ⟨(x : Int), (mleaf (ordLeaf (od.map (clN' cl)) (cLeaf cl lf) L) x : Int)⟩) ∧ Hid (br = (List.range x).flatMap fun (x : Nat) => plI od.length (ordTab (od.map (clN' cl)) (cBr cl so t) L) x)) (fun xx _ => L - (intOf xx).toNat)
  case atStart => exact ⟨0, _, _, [], [], rfl, Nat.zero_le _, by simp, hP, rfl, rfl⟩
  case round =>
    obtain ⟨x, v, v', lv, br, rfl, hx, hlv, hPP, hl, hb⟩ := hrel
    obtain ⟨hX, hnum, -⟩ := hTH.out.keep hPP.kept
    obtain ⟨A, c, rfl⟩ := slice_of_own hPP.lvs
    have hc1 := hX.b.cell
    have hc4 := hPP.blk.cell
    have hwb := hPP.kept.size
    have hlen : br.length ≤ 800000 := by
      rw [hb.out]
      have h1 := flat_len (fun (x : Nat) => plI od.length (ordTab (od.map (clN' cl)) (cBr cl so t) L) x) (300 * 300) (fun x => Nat.le_trans (plI_len od.length od.length _ x) (Nat.mul_le_mul (by omega) (by omega))) (List.range x)
      rw [List.length_range] at h1
      have h2 : x * (300 * 300) ≤ 8 * (300 * 300) := Nat.mul_le_mul (by omega) (Nat.le_refl _)
      omega
    by_cases hlt : x < L
    · obtain ⟨gl, cvl, rfl, hlf⟩ := hX.t.leaf
      have hcl1 := hlf x hlt
      have hsn := hCH.out.ok.isM.leaf_lt x hlt
      have hmem : clN' cl (mleaf lf x) ∈ od.map (clN' cl) := (hDH.out.mem _).2 (.leaf x hlt)
      have hval : mleaf (ordLeaf (od.map (clN' cl)) (cLeaf cl lf) L) x = numL (od.map (clN' cl)) (clN' cl (mleaf lf x)) := ordLeaf_get hlt
      have hcs := hX.cell hsn
      have hcn := hclH.out _ hsn
      have hcN : wr.cell? ⟨gN, clN' cl (mleaf lf x), none⟩ = some (.int .i64 (numL (od.map (clN' cl)) (clN' cl (mleaf lf x)) : Int)) := by rw [hnum.cell, rangeC_get _ hcn, numF_old hmem]
      obtain ⟨e, he⟩ : ∃ e, numL (od.map (clN' cl)) (clN' cl (mleaf lf x)) = e := ⟨_, rfl⟩
      rw [he] at hval hcN
      have hvH := hide hval
      obtain ⟨s, hs⟩ : ∃ s, mleaf lf x = s := ⟨_, rfl⟩
      rw [hs] at hcl1 hsn hcs hcn hcN
      obtain ⟨c', hc'⟩ : ∃ c', clN' cl s = c' := ⟨_, rfl⟩
      rw [hc'] at hcs hcn hcN
      have hPd := hide (hPP.keep0 ((Kept.refl wr (fun _ => False)).drew))
      clear hs hc' he hval hmem hlf hnum hPP
      go_wp2_with fail
      refine Reg.region_cut [0, 1, 0, 0, 0, 0, 32, 0, 224, 480, 1008, 2032, 4088, 8184, 16380, 32764, 65535, 131071, 262143] [0, 1, 2, 3, 4, 5, 6, 7, 8, 9, 10, 11, 12, 13, 14, 15, 16, 17, 18] (by kernel_rfl) (by repeat (first | exact hN | refine Reg.NoQ.then ?_ | refine Reg.NoQ.inBlock ?_)) ?_
      refine Reg.rest_walkE [0, 1, 2, 3, 4, 5, 6, 7, 8, 9, 10, 11, 12, 13] _ rfl rfl (by kernel_rfl) ?_
      intro Qf hQf
      go_wp2_with fail
      try (rw [List.filterMap_nil]; go_wp2_with fail)
      refine Reg.rest_act' 14 _ [1] rfl (by kernel_rfl) ?_
      intro Qf hQf
      simp only [List.getElem_toArray, List.getElem_cons_succ, List.getElem_cons_zero]
      go_wp2_with fail
      refine ⟨Reg.same_below (Below.refl _ _) [1] rfl, ?_⟩
      refine Reg.rest_walkE [15] _ rfl rfl (by kernel_rfl) ?_
      intro Qf hQf
      go_wp2_with fail
      try (rw [List.filterMap_nil]; go_wp2_with fail)
      refine Reg.rest_act' 16 _ [] rfl (by kernel_rfl) ?_
      intro Qf hQf
      simp only [List.getElem_toArray, List.getElem_cons_succ, List.getElem_cons_zero]
      refine wpList_app_new (w := wr.drew) row23 rfl _ _ rfl wb.heap.size (.slice A lv.length c) lv.length _ rfl hPd.out.lvs [.int .i64 (x : Int), .int .i64 (e : Int)] 1 rfl rfl (by simp [Value.oneCell']) (by omega) hwb ?_
      intro g cap' w3 hown hk3 hmv3 hg3'
      have hm3 := hPd.out.blk.kept hk3 (fun e => own_blk_ne hPd.out.lvs hPd.out.blk (by decide) e)
      have hcm3 := hm3.cell
      have hfm3 := hm3.frozen
      have hgl3 := hm3.lt
      have hPf := hide (hPd.out.addLv (e := ⟨(x : Int), (e : Int)⟩) hk3 hown)
      refine hQf _ _ ⟨fun r hr => absurd hr (List.not_mem_nil), ?_⟩
      clear hQf hk3 hown hmv3 hg3' hm3
      refine Reg.rest_walkE [17, 18] _ rfl rfl (by kernel_rfl) ?_
      intro Qf hQf
      go_wp2_with fail
      refine hQf _ _ (Reg.rest_end ?_)
      clear hQf hcm3 hfm3 hc1 hc4
      go_wp2_with fail
      refine can_bi hTH.out hCH.out hn hOH.out hDH.out hlt hPf.out hlen ?_ ?_
      · repeat (first | exact hN | refine Reg.NoQ.then ?_ | refine Reg.NoQ.inBlock ?_)
      · iterate 46 (intro _)
        intro w5 v5 hP5
        have hPH5 := hide hP5
        clear hP5
        go_wp2_with fail
        refine ⟨⟨x + 1, _, _, _, _, by simp, by omega, by simp; omega, hPH5.out, ?_, ?_⟩, by simp [intOf]; omega⟩
        · show _ = _
          rw [List.range_succ, List.map_append, ← hl.out, List.map_singleton, hvH.out]
        · show _ = _
          rw [rangeSnoc, ← hb.out]
    · obtain rfl : x = L := by omega
      have hPH := hide hPP
      clear hPP
      go_wp2_with fail
      have h1 := hl.out
      have h2 := hb.out
      have h3 := hPH.out
      have e1 : plLv (ordLeaf (od.map (clN' cl)) (cLeaf cl lf) x) = lv := by
        rw [h1]
        unfold plLv
        have : (ordLeaf (od.map (clN' cl)) (cLeaf cl lf) x).length = x := by simp [ordLeaf]
        rw [this]
      have e2 : plBr x od.length (ordTab (od.map (clN' cl)) (cBr cl so t) x) = br := h2.symm
      rw [← e1, ← e2] at h3
      exact hQ _ _ _ _ _ _ _ _ _ _ _ _ _ _ _ _ _ _ _ _ _ _ _ _ _ _ _ _ _ _ _ _ _ _ _ _ _ _ _ _ _ _ _ _ _ _ _ _ _ _ _ _ _ _ _ _ _ _ _ _ _ _ _ _ _ _ _ _ _ _ _ wr _ _ h3
end Go.Proofs.Ytnimlcbgeiajiaa

namespace Go.Proofs.Ytnimlcbgeiajiaa
open Go.RowKit

set_option maxHeartbeats 8000000 in
set_option maxRecDepth 100000 in
theorem canonical_any {w : World} {L : Nat} {vl vb va : Value} {lf : List Nat} {t : List (List (List Nat))} {ac : List Bool} (hT : TblF w L ac.length vl vb va (mleaf lf) (mbr t) (macc ac)) (hok : MOK L ac lf t) (hn : ac.length ≤ 300) (hL : L ≤ 8) (hL1 : 1 ≤ L) :
    Calls Try.prog 60 #[.agg #[.int .i64 (L : Int), vl, vb, va]] w (Ret fun v w' => Below w.heap.size w w' ∧ ∃ (ac' : List Bool) (lf' : List Nat) (t' : List (List (List Nat))), MOK L ac' lf' t' ∧ ac'.length ≤ ac.length ∧
      Canon L ac'.length (mleaf lf') (mbr t') (macc ac') (fun tr => macc ac (runT (mleaf lf) (mbr t) tr)) ∧ OwnTA w' w.heap.size v L ac'.length (accIdx ac') (plLv lf') (plBr L ac'.length t')) := by
  have hn1 : 1 ≤ ac.length := hok.pos hL1
  obtain ⟨ga, ca, rfl, hac⟩ := hT.acc
  obtain ⟨gl, cll, rfl, -⟩ := hT.leaf
  obtain ⟨gv, cv, -, -, -, -, rfl, -⟩ := hT.tab
  clear hac
  obtain ⟨w1, hw1, hb1, hB1, hk1⟩ := box_blk w #[.int .i64 (L : Int), .slice (some ⟨gl, 0, none⟩) L cll, .slice (some ⟨gv, 0, none⟩) L cv, .slice (some ⟨ga, 0, none⟩) ac.length ca] 84
  obtain ⟨w2, hw2, hb2, hB2, hk2⟩ := box_blk w1 #[.int .i64 0, .int .i64 0, .slice none 0 0, .slice none 0 0, .slice none 0 0] 26
  have hsz1 := hb1.size
  have hsz2 := hb2.size
  have hlt2 := hB2.lt
  have hb02 := hb1.trans (hb2.mono hsz1)
  have hT2 := hide (hT.below hb02)
  have hB12 := hB1.below hb2
  have hc1 := hB12.cell
  have hOK := hide hok
  clear hT hok
  go_enter Try.func60, Try.ntmps60
  go_wp2_with (go_at_call 79; refine Calls.ret (refclasses_any hT2.out hOK.out.isM (by omega) hn1 hL) ?_; rintro v3 w3 ⟨hb3, gC, cl, rfl, hgC, hC3, hR3⟩
               obtain ⟨w4, hw4, hb4, hB4, hk4⟩ := box_blk w3 #[.int .i64 0, .int .i64 0, .slice none 0 0, .slice none 0 0, .slice none 0 0] 26
               have hc13 := (hB12.below hb3).cell
               have hc4 := hB4.cell
               have hf4 := hB4.frozen
               have hl4 := hB4.lt
               obtain ⟨w5, hw5, hg5, hk5⟩ := set5_facts hB4 (.int .i64 (L : Int)) (.int .i64 0) (.slice none 0 0) (.slice none 0 0) (.slice none 0 0)
               obtain ⟨gN, w6, hmk, hR6, hb6, hgN⟩ := mk_row w5 ac.length (by omega)
               have hw5' := hw5
               simp only [set5] at hw5'
               rw [rangeC_rep] at hR6
               have hbH3 := hide hb3
               have hCH3 := hide hC3
               have hRH3 := hide hR3
               have hgH5 := hide hg5
               have hkH5 := hide hk5
               have hRH6 := hide hR6
               have hbH6 := hide hb6
               have hwH5 := hide hw5
               clear hb3 hC3 hR3 hg5 hk5 hR6 hb6 hc1 hw5)
  have hb35 : Below w3.heap.size w3 w5 := hb4.trans (hkH5.out.below hb4.size fun b hb e => by omega)
  have hX3 : RclX w3 w.heap.size L ac.length gC (.slice (some ⟨gl, 0, none⟩) L cll) (.slice (some ⟨gv, 0, none⟩) L cv) (.slice (some ⟨ga, 0, none⟩) ac.length ca) (mleaf lf) (mbr t) (macc ac) cl := ⟨hT2.out.below hbH3.out, hB12.below hbH3.out, hCH3.out, hRH3.out.len⟩
  have hX3H := hide hX3
  have hX5 := hide (hX3.at hb35)
  have hdD := hRH3.out.toD
  have hCC := hide (show CanC L ac lf cl (repL ac.length cl) t from ⟨hOK.out, hdD, rep_ok hdD.len hdD.lt hn1⟩)
  clear hX3 hdD hw5' hc13 hc4 hf4 hmk
  refine can_init (by omega) hbH6.out hRH6.out hgN ?_
  iterate 10 (intro _)
  intro w7 hb7 hN7
  have hS7 := hide (show CanS w5 w7 ac.length gN (.slice none 0 0) cl [] from ⟨hb7, by simpa [numF] using hN7, own_nil, hgN⟩)
  have hc17 := (hX5.out.at hb7).b.cell
  clear hb7 hN7
  go_wp2_with fail
  refine can_leaves hX5.out hOK.out hCC.out.lt (by omega) hL hS7.out ?_
  iterate 39 (intro _)
  intro w8 vo8 od8 hS8 hO8 hE8
  have hSH8 := hide hS8
  have hOH8 := hide hO8
  have hEH8 := hide hE8
  clear hS8 hO8 hE8 hc17
  go_wp2_with fail
  refine can_rounds hX5.out hCC.out (by omega) hL hL1 hSH8.out hOH8.out hEH8.out ?_ ?_
  · repeat (first | exact Reg.NoQ.body (fun _ _ h => h) (fun _ h => h) | refine Reg.NoQ.then ?_ | refine Reg.NoQ.inBlock ?_)
  · iterate 66 (intro _)
    intro w9 vo9 od hS9 hO9 hD9
    obtain ⟨Ao, co, rfl⟩ := slice_of_own hS9.ord
    have hB49 : Blk w9 w3.heap.size 26 _ := hgH5.out.below hS9.below
    have hc49 := hB49.cell
    have hf49 := hB49.frozen 1
    have hl49 := hB49.lt
    have hks : Kept w9 (w9.setCell ⟨w3.heap.size, 1, none⟩ (.int .i64 (od.length : Int))) (fun k => k = w3.heap.size) := (Kept.refl w9 (fun k => k = w3.heap.size)).setCell (p := ⟨w3.heap.size, 1, none⟩) (fun _ => rfl) _
    have hBb := hB49.set_ 1 (.int .i64 (od.length : Int))
    obtain ⟨wb, hwb⟩ : ∃ wb, w9.setCell ⟨w3.heap.size, 1, none⟩ (.int .i64 (od.length : Int)) = wb := ⟨_, rfl⟩
    rw [hwb] at hks hBb
    have hBb' : Blk wb w3.heap.size 26 #[.int .i64 (L : Int), .int .i64 (od.length : Int), .slice none 0 0, .slice none 0 0, .slice none 0 0] := by simpa using hBb
    have hgNs : w3.heap.size < gN := by
      have h1 := hB4.lt
      have h2 := hkH5.out.size
      omega
    have hTb : CanT w3 wb w.heap.size L gC gN w3.heap.size (.slice (some ⟨gl, 0, none⟩) L cll) (.slice (some ⟨gv, 0, none⟩) L cv) (.slice (some ⟨ga, 0, none⟩) ac.length ca) lf t ac cl (.slice Ao od.length co) od := by
      refine ⟨hX3H.out, (hb35.trans (hS9.below.mono hb35.size)).trans (hks.below ?_ fun b hb e => by omega), hS9.num.kept hks (by omega), hks.ownsRow hS9.ord fun g hg e => by have := own_base hS9.ord hg; omega, Nat.le_refl _, _, hBb'⟩
      have := hB49.lt
      omega
    have hTH := hide hTb
    have hPb := hide (show PlS wb wb w3.heap.size L od.length (.slice none 0 0) (.slice none 0 0) (.slice none 0 0) [] [] [] from ⟨Kept.refl _ _, hBb', own_nil, own_nil, own_nil⟩)
    have hOH := hide hO9
    have hDH := hide hD9
    have hb39 := hide (hb35.trans (hS9.below.mono hb35.size))
    have hkH := hide hks
    clear hS9 hO9 hD9 hTb hBb hBb' hB49 hks
    go_wp2_with fail
    refine can_acc hTH.out hCC.out hn hOH.out hPb.out ?_ ?_
    · repeat (first | exact Reg.NoQ.body (fun _ _ h => h) (fun _ h => h) | refine Reg.NoQ.then ?_ | refine Reg.NoQ.inBlock ?_)
    · iterate 21 (intro _)
      intro wc v10 hP10
      have hPH := hide hP10
      clear hP10 hc49 hf49
      go_wp2_with fail
      refine can_lx hTH.out hCC.out hn hL hOH.out hDH.out hPH.out ?_ ?_
      · repeat (first | exact Reg.NoQ.body (fun _ _ h => h) (fun _ h => h) | refine Reg.NoQ.then ?_ | refine Reg.NoQ.inBlock ?_)
      · iterate 71 (intro _)
        intro wd v11 v12 hP11
        obtain ⟨A1, c1, rfl⟩ := slice_of_own hP11.acc
        obtain ⟨A2, c2, rfl⟩ := slice_of_own hP11.lvs
        obtain ⟨A3, c3, rfl⟩ := slice_of_own hP11.brs
        have hcd := hP11.blk.cell
        have hb3d : Below w3.heap.size w3 wd := (hb39.out.trans (hkH.out.below hb39.out.size fun b hb e => by omega)).trans (hP11.kept.below (by have := hkH.out.size; have := hb39.out.size; omega) fun b hb e => by omega)
        have hb2d : Below w2.heap.size w2 wd := hbH3.out.trans (hb3d.mono hbH3.out.size)
        have hBd := hB2.below hb2d
        have hcd2 := hBd.cell
        have hfd2 := hBd.frozen
        have hld2 := hBd.lt
        have hPH11 := hide hP11
        have hb2dH := hide hb2d
        obtain ⟨hr1, hr2⟩ := canon_of hOK.out hCC.out.d hCC.out.r hDH.out
        have hr1H := hide hr1
        have hr2H := hide hr2
        have hol := hOH.out.len hCC.out.lt
        have hlen : ((od.map (clN' cl)).map (cAcc ac (repL ac.length cl))).length = od.length := by simp
        generalize hacN : (od.map (clN' cl)).map (cAcc ac (repL ac.length cl)) = acN at *
        generalize hlfN : ordLeaf (od.map (clN' cl)) (cLeaf cl lf) L = lfN at *
        generalize htN : ordTab (od.map (clN' cl)) (cBr cl (repL ac.length cl) t) L = tN at *
        rw [hwb] at *
        have hlenH := hide hlen
        clear hP11 hb3d hb2d hr1 hr2 hacN hlfN htN hlen
        go_wp2_with fail
        obtain ⟨wF, hwF, hgF, hkF⟩ := set5_facts hBd (.int .i64 (L : Int)) (.int .i64 (od.length : Int)) (.slice A1 (accIdx acN).length c1) (.slice A2 (plLv lfN).length c2) (.slice A3 (plBr L od.length tN).length c3)
        change bodyPost _ _ _ _ _ (set5 wd w1.heap.size (.int .i64 (L : Int)) (.int .i64 (od.length : Int)) (.slice A1 (accIdx acN).length c1) (.slice A2 (plLv lfN).length c2) (.slice A3 (plBr L od.length tN).length c3))
        rw [hwF]
        have hcF := hgF.cell
        have hsb := hb2dH.out.size
        have hne : ∀ e, e ≠ 26 → ∀ g cs, g = w1.heap.size → ¬ Blk wd g e cs := fun e he g cs eg hb => by subst eg; exact hBd.ne_ hb (fun h => he h.symm) rfl
        have hwb0 : w.heap.size ≤ wb.heap.size := by
          have := hkH.out.size
          have := hb39.out.size
          have := hbH3.out.size
          omega
        have hle := hlenH.out
        refine bodyPost_ret (v := .agg #[.int .i64 (L : Int), .int .i64 (od.length : Int), .slice A1 (accIdx acN).length c1, .slice A2 (plLv lfN).length c2, .slice A3 (plBr L od.length tN).length c3]) (by simp [results, Try.results60, go_sem, hcF]) rfl
          ⟨(hb02.trans (hb2dH.out.mono (by omega))).trans (hkF.below (by omega) fun b hb e => by omega), acN, lfN, tN, hr1H.out, by omega, hr2H.out, ?_⟩
        rw [hle]
        exact ⟨_, _, _, rfl, own_weak (own_ty hkF hPH11.out.acc (hne 3 (by decide))) hwb0, own_weak (own_ty hkF hPH11.out.lvs (hne 36 (by decide))) hwb0, own_weak (own_ty hkF hPH11.out.brs (hne 59 (by decide))) hwb0⟩
end Go.Proofs.Ytnimlcbgeiajiaa
