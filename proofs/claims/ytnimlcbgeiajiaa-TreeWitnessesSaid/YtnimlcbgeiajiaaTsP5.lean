/-
  Smallest trees, plainly: sizes that a fixed point of rounds has; the tree that is written; its preorder. Plain Lean.
  Operations that make memory, at any world: what they lay is known by blocks alone; the regions of a function's text as pieces of their own.
  tree.grow: its three rows are made, in whatever order.
  tree.grow: the loop over the leaves.
  tree.grow: a better tree is noted.
  tree.grow: a round over the branches.
  tree.grow: the rounds; the whole function.
  growth.write: two rows that grow; the two regions that append.
  growth.write: the walk.
  tree.Accepts: the walk.
  tree.Witness: the walk.
  The reference's Validate: the walk; what it answers is the function TA.valid of the automaton's data.
  The reference's ValidTree with IsShape: the walks.
-/
import Derived.Test.YtnimlcbgeiajiaaTsP4

namespace Go.Proofs.Ytnimlcbgeiajiaa
open Go.RowKit

def Tr.nodes : Tr → Nat
  | .leaf _ => 1
  | .node _ s t => 1 + s.nodes + t.nodes
def Tr.sh : Tr → List Int
  | .leaf _ => [0]
  | .node _ s t => 2 :: (s.sh ++ t.sh)
def Tr.lb : Tr → List Int
  | .leaf x => [(x : Int)]
  | .node x s t => (x : Int) :: (s.lb ++ t.lb)
theorem Tr.sh_len (t : Tr) : t.sh.length = t.nodes := by
  induction t with
  | leaf x => rfl
  | node x s t ihs iht => simp [Tr.sh, Tr.nodes, ihs, iht]; omega
theorem Tr.lb_len (t : Tr) : t.lb.length = t.nodes := by
  induction t with
  | leaf x => rfl
  | node x s t ihs iht => simp [Tr.lb, Tr.nodes, ihs, iht]; omega
theorem Tr.pos (t : Tr) : 1 ≤ t.nodes := by cases t <;> simp [Tr.nodes] <;> omega

theorem vtGo_tree {L : Int} {n : Nat} (hL : (n : Int) ≤ L) (t : Tr) : ∀ (o : Int) (sh lb : List Int), t.ok n → 1 ≤ o → vtGo L o (t.sh ++ sh) (t.lb ++ lb) = vtGo L (o - 1) sh lb := by
  induction t with
  | leaf x =>
    intro o sh lb ho h1
    have hx : x < n := ho
    have h2 : (o != 0) = true := by simp; omega
    have h3 : decide ((0 : Int) ≤ (x : Int)) = true := by simp
    have h4 : decide ((x : Int) < L) = true := by simp; omega
    show vtGo L o (0 :: sh) ((x : Int) :: lb) = _
    simp only [vtGo, h2, h3, h4]
    simp
  | node x s t ihs iht =>
    intro o sh lb ho h1
    obtain ⟨hx, hs, ht⟩ := ho
    have h2 : (o != 0) = true := by simp; omega
    have h3 : decide ((0 : Int) ≤ (x : Int)) = true := by simp
    have h4 : decide ((x : Int) < L) = true := by simp; omega
    show vtGo L o (2 :: ((s.sh ++ t.sh) ++ sh)) ((x : Int) :: ((s.lb ++ t.lb) ++ lb)) = _
    simp only [vtGo, h2, h3, h4, List.append_assoc]
    rw [ihs _ _ _ hs (by omega), iht _ _ _ ht (by omega)]
    simp
    congr 1
    omega
theorem stk_tree (t : Tr) : ∀ (sh lb : List Int), stk (t.sh ++ sh) (t.lb ++ lb) = (stk sh lb).map (t :: ·) := by
  induction t with
  | leaf x =>
    intro sh lb
    show stk (0 :: sh) ((x : Int) :: lb) = _
    simp only [stk]
    cases stk sh lb <;> simp [stkStep]
  | node x s t ihs iht =>
    intro sh lb
    show stk (2 :: ((s.sh ++ t.sh) ++ sh)) ((x : Int) :: ((s.lb ++ t.lb) ++ lb)) = _
    simp only [stk, List.append_assoc]
    rw [ihs, iht]
    cases stk sh lb <;> simp [stkStep]
theorem treeOf_tree (t : Tr) : treeOf t.sh t.lb = t := by
  have h := stk_tree t [] []
  rw [List.append_nil, List.append_nil] at h
  simp [treeOf, h, stk]
theorem validT_pre {L : Int} {n : Nat} (hL : (n : Int) ≤ L) {t : Tr} (ho : t.ok n) (hn : t.nodes ≤ 4095) : validT L t.sh t.lb = true := by
  have h := vtGo_tree hL t 1 [] [] ho (by omega)
  rw [List.append_nil, List.append_nil] at h
  have h2 := t.pos
  simp only [validT, Tr.sh_len, Tr.lb_len, h, Bool.and_eq_true, decide_eq_true_eq]
  exact ⟨⟨⟨h2, hn⟩, trivial⟩, rfl⟩
theorem validT_nodes {L : Int} : ∀ (sh lb : List Int) (o : Int), 0 ≤ o → vtGo L o sh lb = true → ∀ s, stk sh lb = some s → (s.map Tr.nodes).sum = sh.length
  | [], lb, o, _, _, s, h => by
    have : s = [] := by
      cases lb <;> simp [stk] at h <;> exact h
    subst this
    rfl
  | _ :: _, [], o, _, h, _, _ => by simp [vtGo] at h
  | c :: sh, l :: lb, o, h0, h, s, hs => by
    simp only [vtGo, Bool.and_eq_true, bne_iff_ne, Bool.or_eq_true, beq_iff_eq, decide_eq_true_eq] at h
    obtain ⟨⟨⟨⟨h1, h2⟩, h3⟩, h4⟩, h5⟩ := h
    obtain ⟨s0, e, hl, -⟩ := stk_ok sh lb (o + c - 1) (by omega) h5
    have ih := validT_nodes sh lb (o + c - 1) (by omega) h5 s0 e
    simp only [stk, e, Option.bind_some] at hs
    by_cases hc : c = 0
    · subst hc
      simp only [stkStep, if_pos] at hs
      have hs := Option.some.inj hs
      subst hs
      simp [Tr.nodes, ih]
      omega
    · match s0, hs, ih with
      | t1 :: t2 :: r, hs, ih =>
        simp only [stkStep, if_neg hc] at hs
        have hs := Option.some.inj hs
        subst hs
        simp [Tr.nodes] at ih ⊢
        omega
      | [t1], hs, _ => simp [stkStep, hc] at hs
      | [], hs, _ => simp [stkStep, hc] at hs
theorem treeOf_nodes {L : Int} {sh lb : List Int} (h : validT L sh lb = true) : (treeOf sh lb).nodes = sh.length := by
  obtain ⟨e, -, -, -, -⟩ := validT_tree h
  simp only [validT, Bool.and_eq_true] at h
  have := validT_nodes sh lb 1 (by omega) h.2 _ e
  simpa using this

/-- The tree can have the state. -/
inductive TA.Has (a : TA) : Tr → Int → Prop
  | leaf {l : Leaf} (h : l ∈ a.leaves) : TA.Has a (.leaf l.letter.toNat) l.to
  | node {b : Branch} {s t : Tr} (h : b ∈ a.branches) (hs : TA.Has a s b.first) (ht : TA.Has a t b.second) : TA.Has a (.node b.letter.toNat s t) b.to

theorem mBit_fold {D : Type} (c : D → Bool) (f : D → Int) (q : Int) (hq : 0 ≤ q) (l : List D) : ∀ m, (∀ e ∈ l, 0 ≤ f e) → mBit (l.foldl (fun m e => if c e = true then setB m (f e) else m) m) q = (mBit m q || l.any fun e => c e && decide (f e = q)) := by
  induction l with
  | nil => intro m _; simp
  | cons e l ih =>
    intro m h
    rw [List.foldl_cons, ih _ (fun e' he => h e' (List.mem_cons_of_mem _ he)), List.any_cons, ← Bool.or_assoc]
    congr 1
    cases hc : c e
    · simp
    · simp only [if_true, Bool.true_and]
      unfold setB
      rw [mBit_or, mBit_pow _ _ (h e List.mem_cons_self) hq]

structure TA.Fits (a : TA) (L S : Nat) : Prop where
  hL : a.letters = L
  hS : a.states = S
  S64 : S ≤ 64
  L8 : L ≤ 8
  lv : ∀ l ∈ a.leaves, ∃ x q : Nat, l = ⟨x, q⟩ ∧ x < L ∧ q < S
  br : ∀ b ∈ a.branches, ∃ x f g q : Nat, b = ⟨x, f, g, q⟩ ∧ x < L ∧ f < S ∧ g < S ∧ q < S
  acc : ∀ q ∈ a.accept, ∃ k : Nat, q = k ∧ k < S
theorem TA.fits {a : TA} (h : a.valid = true) : a.Fits a.letters.toNat a.states.toNat := by
  simp only [TA.valid, TA.head, Bool.and_eq_true, decide_eq_true_eq] at h
  obtain ⟨⟨⟨⟨⟨⟨h1, h2⟩, h3⟩, h4⟩, h5⟩, h6⟩, h7⟩ := h
  refine ⟨by omega, by omega, by omega, by omega, fun l hl => ?_, fun b hb => ?_, fun q hq => ?_⟩
  · have := List.all_eq_true.1 h6 l hl
    simp only [okLeaf, inR, Bool.and_eq_true, decide_eq_true_eq] at this
    obtain ⟨x, q⟩ := l
    dsimp only at this
    exact ⟨x.toNat, q.toNat, by congr 1 <;> omega, by omega, by omega⟩
  · have := List.all_eq_true.1 h7 b hb
    simp only [okBranch, inR, Bool.and_eq_true, decide_eq_true_eq] at this
    obtain ⟨x, f, g, q⟩ := b
    dsimp only at this
    exact ⟨x.toNat, f.toNat, g.toNat, q.toNat, by congr 1 <;> omega, by omega, by omega, by omega, by omega⟩
  · have := List.all_eq_true.1 h5 q hq
    simp only [inR, Bool.and_eq_true, decide_eq_true_eq] at this
    exact ⟨q.toNat, by omega, by omega⟩

theorem Has.state {a : TA} {L S : Nat} (hF : a.Fits L S) {t : Tr} {q : Int} (h : a.Has t q) : ∃ k : Nat, q = k ∧ k < S := by
  cases h with
  | leaf h => obtain ⟨x, q, rfl, _, hq⟩ := hF.lv _ h; exact ⟨q, rfl, hq⟩
  | node h _ _ => obtain ⟨x, f, g, q, rfl, _, _, _, hq⟩ := hF.br _ h; exact ⟨q, rfl, hq⟩
theorem Has.ok {a : TA} {L S : Nat} (hF : a.Fits L S) {t : Tr} {q : Int} (h : a.Has t q) : t.ok L := by
  induction h with
  | leaf h => obtain ⟨x, q, rfl, hx, hq⟩ := hF.lv _ h; exact hx
  | node h _ _ ihs iht => obtain ⟨x, f, g, q, rfl, hx, _⟩ := hF.br _ h; exact ⟨hx, ihs, iht⟩

theorem has_iff {a : TA} {L S : Nat} (hF : a.Fits L S) (t : Tr) : ∀ q : Nat, a.Has t q ↔ mBit (a.mask t) (q : Int) = true := by
  induction t with
  | leaf x =>
    intro q
    have e : a.mask (.leaf x) = leafM a.leaves x := rfl
    have e2 : leafM a.leaves x = a.leaves.foldl (fun m e => if (fun e : Leaf => decide (e.letter = (x : Int))) e = true then setB m (e.to) else m) 0 := by
      unfold leafM; simp
    rw [e, e2, mBit_fold _ (fun e : Leaf => e.to) _ (by omega) _ _ (fun e he => by obtain ⟨_, _, rfl, _⟩ := hF.lv e he; simp), mBit_zero, Bool.false_or, List.any_eq_true]
    constructor
    · intro h
      generalize hq : (q : Int) = qq at h
      generalize ht : Tr.leaf x = tt at h
      cases h with
      | leaf h =>
        rename_i l
        obtain ⟨y, k, rfl, _⟩ := hF.lv _ h
        refine ⟨_, h, ?_⟩
        injection ht with ht
        simp at ht
        subst ht
        simp
      | node _ _ _ => cases ht
    · rintro ⟨l, hl, h⟩
      simp only [Bool.and_eq_true, decide_eq_true_eq] at h
      have := TA.Has.leaf (a := a) hl
      rw [h.1, h.2] at this
      simpa using this
  | node x s t ihs iht =>
    intro q
    have e : a.mask (.node x s t) = brM (a.mask s) (a.mask t) (byL a.branches x) := rfl
    have e2 : brM (a.mask s) (a.mask t) (byL a.branches x) = a.branches.foldl (fun m e => if (fun e : Branch => decide (e.letter = (x : Int)) && mBit (a.mask s) e.first && mBit (a.mask t) e.second) e = true then setB m (e.to) else m) 0 := by
      unfold brM
      rw [brM_filter]
      congr 1
      funext m e
      simp [brMF, and_assoc]
    rw [e, e2, mBit_fold _ (fun e : Branch => e.to) _ (by omega) _ _ (fun e he => by obtain ⟨_, _, _, _, rfl, _⟩ := hF.br e he; simp), mBit_zero, Bool.false_or, List.any_eq_true]
    constructor
    · intro h
      generalize hq : (q : Int) = qq at h
      generalize ht : Tr.node x s t = tt at h
      cases h with
      | leaf h => cases ht
      | node h h1 h2 =>
        rename_i b s' t'
        injection ht with ht hs' ht'
        subst hs' ht'
        obtain ⟨y, f, g, k, rfl, _⟩ := hF.br _ h
        simp at ht
        subst ht
        refine ⟨_, h, ?_⟩
        simp only [Bool.and_eq_true, decide_eq_true_eq]
        exact ⟨⟨⟨trivial, (ihs f).1 h1⟩, (iht g).1 h2⟩, trivial⟩
    · rintro ⟨b, hb, h⟩
      obtain ⟨y, f, g, k, rfl, _⟩ := hF.br _ hb
      simp only [Bool.and_eq_true, decide_eq_true_eq] at h
      obtain ⟨⟨⟨h1, h2⟩, h3⟩, h4⟩ := h
      have hx : x = y := by omega
      have hk : q = k := by omega
      subst hx hk
      have := TA.Has.node (a := a) hb ((ihs f).2 h2) ((iht g).2 h3)
      simpa using this

theorem lang_iff {a : TA} {L S : Nat} (hF : a.Fits L S) (t : Tr) : a.lang t = true ↔ ∃ k : Nat, (k : Int) ∈ a.accept ∧ a.Has t k := by
  have e : a.lang t = a.accept.any (mBit (a.mask t)) := accS_any a _ fun q hq => by obtain ⟨k, rfl, _⟩ := hF.acc q hq; simp
  rw [e, List.any_eq_true]
  constructor
  · rintro ⟨q, hq, h⟩
    obtain ⟨k, rfl, _⟩ := hF.acc q hq
    exact ⟨k, hq, (has_iff hF t k).2 h⟩
  · rintro ⟨k, hq, h⟩
    exact ⟨_, hq, (has_iff hF t k).1 h⟩

/-! ## sizes -/
def SzSound (a : TA) (cap : Nat) (sz : List Nat) : Prop := ∀ (q n : Nat), sz[q]? = some n → n ≠ 0 → n ≤ cap ∧ ∃ t, a.Has t q ∧ min t.nodes cap ≤ n
def szOf (sz : List Nat) (q : Int) : Nat := sz[q.toNat]?.getD 0
def Stable (cap : Nat) (sz : List Nat) (b : Branch) : Prop := szOf sz b.first ≠ 0 → szOf sz b.second ≠ 0 → szOf sz b.to ≠ 0 ∧ szOf sz b.to ≤ min (1 + szOf sz b.first + szOf sz b.second) cap
structure SzFix (a : TA) (cap S : Nat) (sz : List Nat) : Prop where
  len : sz.length = S
  sound : SzSound a cap sz
  lv : ∀ l ∈ a.leaves, szOf sz l.to = 1
  br : ∀ b ∈ a.branches, Stable cap sz b
theorem szOf_get {sz : List Nat} {q n : Nat} (h : sz[q]? = some n) : szOf sz (q : Int) = n := by simp [szOf, h]
theorem szOf_set {sz : List Nat} {q n : Nat} (h : q < sz.length) : szOf (sz.set q n) (q : Int) = n := by simp [szOf, h]
theorem szOf_ne {sz : List Nat} {q k n : Nat} (h : q ≠ k) : szOf (sz.set q n) (k : Int) = szOf sz (k : Int) := by simp [szOf, h]

theorem SzFix.least {a : TA} {cap S : Nat} {sz : List Nat} (h : SzFix a cap S sz) {t : Tr} {q : Int} (ht : a.Has t q) : szOf sz q ≠ 0 ∧ szOf sz q ≤ t.nodes := by
  induction ht with
  | leaf hl => rw [h.lv _ hl]; simp [Tr.nodes]
  | node hb _ _ ihs iht =>
    have := h.br _ hb ihs.1 iht.1
    refine ⟨this.1, ?_⟩
    simp only [Tr.nodes]
    omega
theorem SzFix.tree {a : TA} {cap S : Nat} {sz : List Nat} (h : SzFix a cap S sz) {q : Nat} (hq : szOf sz q ≠ 0) : szOf sz q ≤ cap ∧ ∃ t, a.Has t q ∧ (szOf sz q < cap → t.nodes = szOf sz q) ∧ (szOf sz q = cap → cap ≤ t.nodes) := by
  have hg : ∃ n, sz[q]? = some n := by
    cases hx : sz[q]? with
    | none => simp [szOf, hx] at hq
    | some n => exact ⟨n, rfl⟩
  obtain ⟨n, hn⟩ := hg
  have e := szOf_get hn
  rw [e] at hq ⊢
  obtain ⟨h1, t, h2, h3⟩ := h.sound q n hn hq
  have h4 := (h.least h2).2
  rw [e] at h4
  exact ⟨h1, t, h2, fun hlt => by omega, fun he => by omega⟩

/-! ## where the sizes come from -/
def SzFrom (a : TA) (cap : Nat) (sz : List Nat) (lf : List Int) (fr : List Branch) : Prop := ∀ (q n : Nat), sz[q]? = some n → n ≠ 0 →
  (∃ l ∈ a.leaves, l.to = q ∧ lf[q]? = some l.letter ∧ n = 1) ∨
  (lf[q]? = some (-1) ∧ ∃ b ∈ a.branches, b.to = q ∧ fr[q]? = some b ∧ szOf sz b.first ≠ 0 ∧ szOf sz b.second ≠ 0 ∧ min (1 + szOf sz b.first + szOf sz b.second) cap ≤ n)
structure GroI (a : TA) (cap S : Nat) (sz : List Nat) (lf : List Int) (fr : List Branch) : Prop where
  len : sz.length = S
  lenl : lf.length = S
  lenf : fr.length = S
  sound : SzSound a cap sz
  from_ : SzFrom a cap sz lf fr
theorem GroI.zero (a : TA) (cap S : Nat) (lf : List Int) (fr : List Branch) (h1 : lf.length = S) (h2 : fr.length = S) : GroI a cap S (List.replicate S 0) lf fr :=
  ⟨by simp, h1, h2, fun q n h hn => by simp [List.getElem?_replicate] at h; omega, fun q n h hn => by simp [List.getElem?_replicate] at h; omega⟩
theorem szOf_int {sz : List Nat} {q : Nat} : szOf sz (q : Int) = sz[q]?.getD 0 := by simp [szOf]
/-- A size that falls, at one place. -/
theorem sz_falls {sz : List Nat} {q0 n0 : Nat} (h0 : n0 ≠ 0) (hf : szOf sz q0 ≠ 0 → n0 ≤ szOf sz q0) {k : Nat} (hk : szOf sz k ≠ 0) : szOf (sz.set q0 n0) k ≠ 0 ∧ szOf (sz.set q0 n0) k ≤ szOf sz k := by
  by_cases h : q0 = k
  · subst h
    have hlt : q0 < sz.length := by
      refine Nat.lt_of_not_le fun hx => hk ?_
      rw [szOf_int, List.getElem?_eq_none hx]
      rfl
    rw [szOf_set hlt]
    exact ⟨h0, hf hk⟩
  · rw [szOf_ne h]
    exact ⟨hk, Nat.le_refl _⟩
theorem SzSound.set {a : TA} {cap : Nat} {sz : List Nat} (h : SzSound a cap sz) {q0 n0 : Nat} (hn : n0 ≤ cap) {t : Tr} (ht : a.Has t q0) (hm : min t.nodes cap ≤ n0) : SzSound a cap (sz.set q0 n0) := by
  intro q n hq hne
  by_cases e : q0 = q
  · subst e
    rw [List.getElem?_set] at hq
    simp at hq
    obtain ⟨_, rfl⟩ := hq
    exact ⟨hn, t, ht, hm⟩
  · rw [List.getElem?_set, if_neg e] at hq
    exact h q n hq hne
/-- The tree of a branch whose children have trees. -/
theorem SzSound.branch {a : TA} {cap : Nat} {sz : List Nat} (h : SzSound a cap sz) {x f g q : Nat} (hb : (⟨x, f, g, q⟩ : Branch) ∈ a.branches) (hf : szOf sz f ≠ 0) (hg : szOf sz g ≠ 0) :
    ∃ t, a.Has t q ∧ min t.nodes cap ≤ min (1 + szOf sz f + szOf sz g) cap := by
  have ex : ∀ k : Nat, szOf sz k ≠ 0 → ∃ n, sz[k]? = some n ∧ szOf sz k = n := fun k hk => by
    rw [szOf_int] at hk ⊢
    cases hx : sz[k]? with
    | none => rw [hx] at hk; exact absurd rfl hk
    | some n => exact ⟨n, rfl, rfl⟩
  obtain ⟨n1, h1, e1⟩ := ex f hf
  obtain ⟨n2, h2, e2⟩ := ex g hg
  obtain ⟨_, t1, ht1, hm1⟩ := h f n1 h1 (by omega)
  obtain ⟨_, t2, ht2, hm2⟩ := h g n2 h2 (by omega)
  refine ⟨_, TA.Has.node hb ht1 ht2, ?_⟩
  simp only [Tr.nodes]
  omega
theorem SzFrom.set {a : TA} {cap L S : Nat} {sz : List Nat} {lf lf' : List Int} {fr fr' : List Branch} (hF : a.Fits L S) (h : SzFrom a cap sz lf fr) {q0 n0 : Nat} (h0 : n0 ≠ 0) (hf : szOf sz q0 ≠ 0 → n0 ≤ szOf sz q0)
    (hl : ∀ q, q0 ≠ q → lf'[q]? = lf[q]?) (hr : ∀ q, q0 ≠ q → fr'[q]? = fr[q]?)
    (hnew : (∃ l ∈ a.leaves, l.to = q0 ∧ lf'[q0]? = some l.letter ∧ n0 = 1) ∨
      (lf'[q0]? = some (-1) ∧ ∃ b ∈ a.branches, b.to = q0 ∧ fr'[q0]? = some b ∧ szOf (sz.set q0 n0) b.first ≠ 0 ∧ szOf (sz.set q0 n0) b.second ≠ 0 ∧ min (1 + szOf (sz.set q0 n0) b.first + szOf (sz.set q0 n0) b.second) cap ≤ n0)) :
    SzFrom a cap (sz.set q0 n0) lf' fr' := by
  intro q n hq hne
  by_cases e : q0 = q
  · subst e
    rw [List.getElem?_set] at hq
    simp at hq
    obtain ⟨_, rfl⟩ := hq
    exact hnew
  · rw [List.getElem?_set, if_neg e] at hq
    rcases h q n hq hne with ⟨l, hl1, hl2, hl3, hl4⟩ | ⟨h1, b, hb, hb2, hb3, hb4, hb5, hb6⟩
    · exact .inl ⟨l, hl1, hl2, by rw [hl q e]; exact hl3, hl4⟩
    · obtain ⟨x, f, g, k, rfl, _⟩ := hF.br b hb
      dsimp only at *
      have f1 := sz_falls h0 hf hb4
      have f2 := sz_falls h0 hf hb5
      exact .inr ⟨by rw [hl q e]; exact h1, _, hb, hb2, by rw [hr q e]; exact hb3, f1.1, f2.1, by dsimp only; omega⟩
theorem GroI.leaf {a : TA} {cap L S : Nat} {sz : List Nat} {lf : List Int} {fr : List Branch} (hF : a.Fits L S) (hc : 1 ≤ cap) (h : GroI a cap S sz lf fr) {x q : Nat} (hl : (⟨x, q⟩ : Leaf) ∈ a.leaves) (hq : q < S) : GroI a cap S (sz.set q 1) (lf.set q x) fr := by
  have ht : a.Has (.leaf x) q := by simpa using TA.Has.leaf hl
  refine ⟨by rw [List.length_set, h.len], by rw [List.length_set, h.lenl], h.lenf, h.sound.set hc ht (by simp [Tr.nodes]; omega), ?_⟩
  refine h.from_.set hF (by omega) (fun hx => by omega) (fun k hk => by rw [List.getElem?_set, if_neg hk]) (fun _ _ => rfl) (.inl ⟨_, hl, rfl, ?_, rfl⟩)
  rw [List.getElem?_set]
  simp [h.lenl, hq]
theorem GroI.le {a : TA} {cap S : Nat} {sz : List Nat} {lf : List Int} {fr : List Branch} (h : GroI a cap S sz lf fr) (q : Nat) : szOf sz q ≤ cap := by
  rw [szOf_int]
  cases hx : sz[q]? with
  | none => simp
  | some n =>
    by_cases hn : n = 0
    · simp [hn]
    · exact (h.sound q n hx hn).1
theorem GroI.branch {a : TA} {cap L S : Nat} {sz : List Nat} {lf : List Int} {fr : List Branch} (hF : a.Fits L S) (hc : 2 ≤ cap) (h : GroI a cap S sz lf fr) {x f g q : Nat} (hb : (⟨x, f, g, q⟩ : Branch) ∈ a.branches) (hq : q < S)
    (hf : szOf sz f ≠ 0) (hg : szOf sz g ≠ 0) (hn : szOf sz q = 0 ∨ min (1 + szOf sz f + szOf sz g) cap < szOf sz q) :
    GroI a cap S (sz.set q (min (1 + szOf sz f + szOf sz g) cap)) (lf.set q (-1)) (fr.set q ⟨x, f, g, q⟩) := by
  obtain ⟨t, ht, hm⟩ := h.sound.branch hb hf hg
  have l1 := h.le f
  have l2 := h.le g
  have nf : q ≠ f := by rintro rfl; omega
  have ng : q ≠ g := by rintro rfl; omega
  refine ⟨by rw [List.length_set, h.len], by rw [List.length_set, h.lenl], by rw [List.length_set, h.lenf], h.sound.set (Nat.min_le_right _ _) ht hm, ?_⟩
  refine h.from_.set hF (by omega) (fun hx => by omega) (fun k hk => by rw [List.getElem?_set, if_neg hk]) (fun k hk => by rw [List.getElem?_set, if_neg hk]) (.inr ⟨?_, _, hb, rfl, ?_, ?_⟩)
  · rw [List.getElem?_set]
    simp [h.lenl, hq]
  · rw [List.getElem?_set]
    simp [h.lenf, hq]
  · dsimp only
    rw [szOf_ne nf, szOf_ne ng]
    exact ⟨hf, hg, Nat.le_refl _⟩

/-- The leaves' states stay at one. -/
theorem lv_stay {lv : List Leaf} {sz : List Nat} (h : ∀ l ∈ lv, szOf sz l.to = 1) {q n : Nat} (hp : ∀ l ∈ lv, 0 ≤ l.to) (hn : 1 ≤ n) (hq : szOf sz q = 0 ∨ n < szOf sz q) : ∀ l ∈ lv, szOf (sz.set q n) l.to = 1 := by
  intro l hl
  have h1 := h l hl
  obtain ⟨k, hk⟩ := Int.eq_ofNat_of_zero_le (hp l hl)
  rw [hk] at h1 ⊢
  have : q ≠ k := by rintro rfl; omega
  rw [szOf_ne this, h1]
theorem lv_add {lv : List Leaf} {sz : List Nat} {k : Nat} {x q : Nat} (hl : lv[k]? = some ⟨x, q⟩) (hq : q < sz.length) (hp : ∀ l ∈ lv, 0 ≤ l.to) (h : ∀ l ∈ lv.take k, szOf sz l.to = 1) : ∀ l ∈ lv.take (k + 1), szOf (sz.set q 1) l.to = 1 := by
  intro l h1
  rw [List.take_add_one, hl] at h1
  simp only [Option.toList_some, List.mem_append, List.mem_singleton] at h1
  rcases h1 with h1 | rfl
  · have h2 := h l h1
    obtain ⟨j, hj⟩ := Int.eq_ofNat_of_zero_le (hp l (List.mem_of_mem_take h1))
    rw [hj] at h2 ⊢
    by_cases e : q = j
    · subst e; exact szOf_set hq
    · rw [szOf_ne e, h2]
  · exact szOf_set hq

/-! ## the number of rounds -/
def szM (cap : Nat) (n : Nat) : Nat := if n = 0 then cap + 1 else n
def szSum (cap : Nat) (sz : List Nat) : Nat := (sz.map (szM cap)).sum
theorem szSum_set {cap n0 : Nat} : ∀ (sz : List Nat) (q : Nat), q < sz.length → szM cap n0 < szM cap (szOf sz q) → szSum cap (sz.set q n0) < szSum cap sz
  | [], q, h, _ => by simp at h
  | m :: sz, 0, _, hf => by
    simp [szOf] at hf
    simp [szSum]
    omega
  | m :: sz, q + 1, h, hf => by
    have ih := szSum_set sz q (by simpa using h) (by rw [szOf_int] at hf ⊢; simpa using hf)
    unfold szSum at ih ⊢
    simp only [List.set_cons_succ, List.map_cons, List.sum_cons]
    omega
theorem szM_falls {cap S : Nat} {a : TA} {sz : List Nat} {lf : List Int} {fr : List Branch} (h : GroI a cap S sz lf fr) {q n : Nat} (hn : n ≠ 0) (hc : n ≤ cap) (hf : szOf sz q = 0 ∨ n < szOf sz q) : szM cap n < szM cap (szOf sz q) := by
  have := h.le q
  unfold szM
  split <;> split <;> omega

/-! ## the tree that is written -/
inductive Wr (lf : List Int) (fr : List Branch) : Nat → Tr → Prop
  | leaf {q x : Nat} (h : lf[q]? = some (x : Int)) : Wr lf fr q (.leaf x)
  | node {q x f g : Nat} {to : Int} {s t : Tr} (h : lf[q]? = some (-1)) (hb : fr[q]? = some ⟨x, f, g, to⟩) (hs : Wr lf fr f s) (ht : Wr lf fr g t) : Wr lf fr q (.node x s t)
theorem wr_of {a : TA} {cap L S : Nat} {sz : List Nat} {lf : List Int} {fr : List Branch} (hF : a.Fits L S) (hI : SzFrom a cap sz lf fr) (hX : SzFix a cap S sz) : ∀ (n q : Nat), szOf sz q = n → n ≠ 0 → n < cap → ∃ t, Wr lf fr q t ∧ a.Has t q ∧ t.nodes = n := by
  intro n
  induction n using Nat.strongRecOn with
  | _ n ih =>
    intro q hq hn hc
    have hg : sz[q]? = some n := by
      rw [szOf_int] at hq
      cases hx : sz[q]? with
      | none => rw [hx] at hq; simp at hq; omega
      | some m => rw [hx] at hq; simp at hq; rw [hq]
    rcases hI q n hg hn with ⟨l, hl, hto, hlf, h1⟩ | ⟨h1, b, hb, hto, hfr, hb4, hb5, hb6⟩
    · obtain ⟨x, k, rfl, _⟩ := hF.lv l hl
      dsimp only at hto hlf
      have : k = q := by omega
      subst this
      exact ⟨.leaf x, .leaf hlf, by simpa using TA.Has.leaf hl, by rw [h1]; rfl⟩
    · obtain ⟨x, f, g, k, rfl, _⟩ := hF.br b hb
      dsimp only at *
      have e : k = q := by omega
      subst e
      have hst := hX.br _ hb hb4 hb5
      dsimp only at hst
      obtain ⟨t1, w1, p1, n1⟩ := ih (szOf sz f) (by omega) f rfl hb4 (by omega)
      obtain ⟨t2, w2, p2, n2⟩ := ih (szOf sz g) (by omega) g rfl hb5 (by omega)
      refine ⟨.node x t1 t2, .node h1 hfr w1 w2, by simpa using TA.Has.node hb p1 p2, ?_⟩
      simp only [Tr.nodes, n1, n2]
      omega
end Go.Proofs.Ytnimlcbgeiajiaa

namespace Go.Proofs.Ytnimlcbgeiajiaa
open Go.RowKit

def regionsOf : Code → List Code
  | .region i o d => [.region i o d]
  | .loop c => regionsOf c
  | .seq a b => regionsOf a ++ regionsOf b
  | .block _ c => regionsOf c
  | .scope c => regionsOf c
  | .cond _ a b => regionsOf a ++ regionsOf b
  | _ => []
def regionAt (f : Func) (k : Nat) : Code := match f.body with
  | some c => (regionsOf c).getD k .skip
  | none => .skip

/-- Blocks that were laid since. -/
structure AllB (w0 w : World) (l : List (Nat × TypeId × Array Value)) : Prop where
  below : Below w0.heap.size w0 w
  blk : ∀ x ∈ l, Blk w x.1 x.2.1 x.2.2 ∧ w0.heap.size ≤ x.1
  nodup : (l.map (·.1)).Nodup
theorem AllB.nil (w : World) : AllB w w [] := ⟨Below.refl _ _, fun _ h => by simp at h, by simp⟩
theorem AllB.add {w0 w w1 : World} {l : List (Nat × TypeId × Array Value)} (h : AllB w0 w l) (hb : Below w.heap.size w w1) {g : Nat} {e : TypeId} {cs : Array Value} (hg : Blk w1 g e cs) (hs : w.heap.size ≤ g) : AllB w0 w1 ((g, e, cs) :: l) := by
  refine ⟨h.below.trans (hb.mono h.below.size), fun x hx => ?_, ?_⟩
  · rcases List.mem_cons.1 hx with rfl | hx
    · exact ⟨hg, Nat.le_trans h.below.size hs⟩
    · exact ⟨(h.blk x hx).1.below hb, (h.blk x hx).2⟩
  · rw [List.map_cons, List.nodup_cons]
    refine ⟨fun hx => ?_, h.nodup⟩
    obtain ⟨x, hx, e⟩ := List.mem_map.1 hx
    have := (h.blk x hx).1.lt
    dsimp only at e
    omega
theorem AllB.drew {w0 w : World} {l : List (Nat × TypeId × Array Value)} (h : AllB w0 w l) : AllB w0 w.drew l :=
  ⟨h.below.trans ((drew_below w).mono h.below.size), h.blk, h.nodup⟩

theorem AllB.pick {w0 w : World} {l : List (Nat × TypeId × Array Value)} (h : AllB w0 w l) (l' : List (Nat × TypeId × Array Value)) (hl : ∀ x ∈ l', x ∈ l) (hn : (l'.map (·.1)).Nodup) : AllB w0 w l' :=
  ⟨h.below, fun x hx => h.blk x (hl x hx), hn⟩
def set3 (w : World) (g : Nat) (v0 v1 v2 : Value) : World := ((w.setCell ⟨g, 0, none⟩ v0).setCell ⟨g, 1, none⟩ v1).setCell ⟨g, 2, none⟩ v2
theorem AllB.set3 {w0 w : World} {l : List (Nat × TypeId × Array Value)} {g : Nat} {e : TypeId} {a b c : Value} (h : AllB w0 w ((g, e, #[a, b, c]) :: l)) (v0 v1 v2 : Value) : AllB w0 (set3 w g v0 v1 v2) ((g, e, #[v0, v1, v2]) :: l) := by
  have hg := (h.blk _ List.mem_cons_self)
  have hk : Kept w (Go.Proofs.Ytnimlcbgeiajiaa.set3 w g v0 v1 v2) (fun k => k = g) := (((Kept.refl w (fun k => k = g)).setCell (p := ⟨g, 0, none⟩) (fun _ => rfl) _).setCell (p := ⟨g, 1, none⟩) (fun _ => rfl) _).setCell (p := ⟨g, 2, none⟩) (fun _ => rfl) _
  have hb := (((hg.1.set_ 0 v0).set_ 1 v1).set_ 2 v2)
  refine ⟨h.below.trans (hk.below h.below.size fun b hb e => by have := hg.2; dsimp only at this; omega), fun x hx => ?_, h.nodup⟩
  rcases List.mem_cons.1 hx with rfl | hx
  · exact ⟨hb, hg.2⟩
  · have h1 := h.blk x (List.mem_cons_of_mem _ hx)
    refine ⟨Blk.kept h1.1 hk fun e => ?_, h1.2⟩
    have h2 := h.nodup
    rw [List.map_cons, List.nodup_cons] at h2
    exact h2.1 (List.mem_map.2 ⟨x, hx, e⟩)

section
variable {P : Program} {ops : Array Oper} {rest : List Oper} {o : Oper} {a : Act} {Q : Exit → Act → World → Prop}
theorem wpList_make {w : World} {t e bytes sz : Nat} {z : Value} (ht : P.underlying t = some (.slice e)) (hi : (P.info? e).map (fun i => (i.zero, i.size, i.bytes)) = some (some z, sz, bytes)) (hb : bytes ≤ 200) (hsz : sz ≤ 200)
    (n : Nat) (hn : n ≤ 80000) (hgd : o.guard = none) (x y : Operand) (ho : o.op = .makeSlice t x y) (hx : a.eval x = .int .i64 n) (hy : a.eval y = .int .i64 n)
    (h : ∀ g w1, Blk w1 g e (madeCells z.cells (n * sz)) → Below w.heap.size w w1 → w.heap.size ≤ g → wpList P ops Q rest (a.put o.dst (.slice (some ⟨g, 0, none⟩) n n)) w1) : wpList P ops Q (o :: rest) a w := by
  refine wpList_plain hgd fun K hK => ?_
  obtain ⟨i, h1, h2, h3, h4⟩ := info_parts hi
  have hb' : bytes * n ≤ 200 * 80000 := Nat.mul_le_mul hb hn
  have hb2 : (i.bytes : Int) * (n : Int) ≤ 281474976710656 := by
    rw [h4, ← Int.natCast_mul]; omega
  have hs' : n * sz ≤ 80000 * 200 := Nat.mul_le_mul hn hsz
  have hs2 : ((n : Int).toNat) * i.size ≤ 16000000 := by rw [h3, Int.toNat_natCast]; omega
  have hr := run_makeSlice (P := P) w t e i z ht h1 h2 .i64 .i64 n n (by omega) (Int.le_refl _) (by omega) hb2 (by omega)
  simp only [Int.toNat_natCast] at hr
  rw [h3] at hr
  unfold Oper.wp execOp
  simp only [ho, hx, hy, Sem.run_bind, Sem.run_pure, Result.andThen_ok, hr]
  exact hK _ _ (h _ _ (Blk.new _ _ _) ((Below.refl _ _).alloc (Nat.le_refl _) _) (Nat.le_refl _))
theorem wpList_alloc {w : World} {t bytes sz : Nat} {z : Value} (hi : (P.info? t).map (fun i => (i.zero, i.size, i.bytes)) = some (some z, sz, bytes))
    (hgd : o.guard = none) (ho : o.op = .alloc t)
    (h : ∀ g w1, Blk w1 g t z.cells → Below w.heap.size w w1 → w.heap.size ≤ g → wpList P ops Q rest (a.put o.dst (.pointer (some ⟨g, 0, none⟩))) w1) : wpList P ops Q (o :: rest) a w := by
  refine wpList_plain hgd fun K hK => ?_
  obtain ⟨i, h1, h2, h3, h4⟩ := info_parts hi
  have hr : (Instr.alloc t true (.tuple #[])).run P w = .ok (.pointer (some ⟨w.heap.size, 0, none⟩)) (w.alloc (.cells z.cells t)) := by
    simp [Instr.alloc, zeroValue, typeInfo, go_sem, h1, h2]
  unfold Oper.wp execOp
  simp only [ho, Sem.run_bind, Sem.run_pure, Result.andThen_ok, hr]
  exact hK _ _ (h _ _ (Blk.new _ _ _) ((Below.refl _ _).alloc (Nat.le_refl _) _) (Nat.le_refl _))
end
namespace Reg
theorem rest_walkE {P : Program} {Q : Post} {a : Act} {w : World} {l l1 : List Oper} {tab D T : List Nat} (T1 T2 : List Nat) (hT : T1 ++ T2 = T) (hl : pick l.toArray T1 = l1)
    (hc : (T1.all (fun i => decide (i < l.length)) && plainB P false l.toArray tab T1 && D.all (fun r => T1.all fun y => match l.toArray[r]?, l.toArray[y]? with
      | some q, some oy => !loadOp q.op || !eff P false oy || befT tab r y
      | _, _ => true)) = true)
    (h : ∀ Qf : Post, (∀ a w, Rest P l.toArray tab Q (T1 ++ D) T2 a w → Qf .normal a w) → wpList P l.toArray Qf l1 a w) : Rest P l.toArray tab Q D T a w := by
  subst hT
  exact rest_walk' T1 T2 hl hc h
end Reg
end Go.Proofs.Ytnimlcbgeiajiaa

namespace Go.Proofs.Ytnimlcbgeiajiaa
open Go.RowKit

theorem info75 : (Try.prog.info? 75).map (fun i => (i.zero, i.size, i.bytes)) = some (some (.agg #[.slice none 0 0, .slice none 0 0, .slice none 0 0]), 3, 72) := by kernel_rfl
def rowZ (S : Nat) : Array Value := madeCells #[.int .i64 0] (S * 1)
def frZ (S : Nat) : Array Value := madeCells #[.int .i64 0, .int .i64 0, .int .i64 0, .int .i64 0] (S * 4)

set_option maxHeartbeats 8000000 in
set_option maxRecDepth 100000 in
theorem grow_rows {w : World} {gb S : Nat} (hS : S ≤ 64) (hc : w.cell? ⟨gb, 1, none⟩ = some (.int .i64 (S : Int)))
    {u0 u2 u3 u4 u5 u6 u7 u8 u9 u10 u11 u12 u13 u14 u15 u16 u17 u18 u19 u20 u21 u22 u23 u24 u25 u26 u27 u28 u29 u30 u31 u32 u33 u34 u35 u36 u37 u38 u39 u40 u41 u42 u43 u44 u45 u46 u47 u48 u49 u50 u51 u52 u53 u54 u55 u56 u57 u58 u59 u60 u61 u62 u63 u64 u65 u66 u67 u68 u69 u70 u71 u72 u73 u74 u75 u76 u77 u78 u79 u80 u81 u82 u83 u84 u85 u86 u87 u88 u89 u90 u91 u92 u93 u94 u95 u96 u97 u98 u99 u100 u101 u102 u103 u104 u105 u106 u107 u108 u109 u110 u111 u112 u113 u114 : Value}
    {Q : Exit → Act → World → Prop} (hN : Reg.NoQ Q)
    (hQ : ∀ (x10 x11 x12 x13 x14 x15 x16 x17 x18 x19 : Value) (w' : World) (g3 gs gl gf : Nat), AllB w w' [(g3, 75, #[.slice (some ⟨gs, 0, none⟩) S S, .slice (some ⟨gl, 0, none⟩) S S, .slice (some ⟨gf, 0, none⟩) S S]), (gs, 3, rowZ S), (gl, 3, rowZ S), (gf, 59, frZ S)] →
      Q .normal ⟨List.toArray (u0 :: (.pointer (some ⟨gb, 0, none⟩)) :: u2 :: (.pointer (some ⟨g3, 0, none⟩)) :: u4 :: u5 :: u6 :: u7 :: u8 :: u9 :: x10 :: x11 :: x12 :: x13 :: x14 :: x15 :: x16 :: x17 :: x18 :: x19 :: u20 :: u21 :: u22 :: u23 :: u24 :: u25 :: u26 :: u27 :: u28 :: u29 :: 
      u30 :: u31 :: u32 :: u33 :: u34 :: u35 :: u36 :: u37 :: u38 :: u39 :: u40 :: u41 :: u42 :: u43 :: u44 :: u45 :: u46 :: u47 :: u48 :: u49 :: u50 :: u51 :: u52 :: u53 :: u54 :: u55 :: u56 :: u57 :: u58 :: u59 :: u60 :: u61 :: u62 :: u63 :: u64 :: u65 :: u66 :: 
      u67 :: u68 :: u69 :: u70 :: u71 :: u72 :: u73 :: u74 :: u75 :: u76 :: u77 :: u78 :: u79 :: u80 :: u81 :: u82 :: u83 :: u84 :: u85 :: u86 :: u87 :: u88 :: u89 :: u90 :: u91 :: u92 :: u93 :: u94 :: u95 :: u96 :: u97 :: u98 :: u99 :: u100 :: u101 :: u102 :: u103 :: 
      u104 :: u105 :: u106 :: u107 :: u108 :: u109 :: u110 :: u111 :: u112 :: u113 :: u114 :: []), []⟩ w') :
    (regionAt Try.f57 1).wp Try.prog Q ⟨List.toArray (u0 :: (.pointer (some ⟨gb, 0, none⟩)) :: u2 :: u3 :: u4 :: u5 :: u6 :: u7 :: u8 :: u9 :: u10 :: u11 :: u12 :: u13 :: u14 :: u15 :: u16 :: u17 :: u18 :: u19 :: u20 :: u21 :: u22 :: u23 :: u24 :: u25 :: u26 :: u27 :: u28 :: u29 :: u30 :: u31 :: u32 :: u33 :: u34 :: 
      u35 :: u36 :: u37 :: u38 :: u39 :: u40 :: u41 :: u42 :: u43 :: u44 :: u45 :: u46 :: u47 :: u48 :: u49 :: u50 :: u51 :: u52 :: u53 :: u54 :: u55 :: u56 :: u57 :: u58 :: u59 :: u60 :: u61 :: u62 :: u63 :: u64 :: u65 :: u66 :: u67 :: u68 :: u69 :: u70 :: u71 :: 
      u72 :: u73 :: u74 :: u75 :: u76 :: u77 :: u78 :: u79 :: u80 :: u81 :: u82 :: u83 :: u84 :: u85 :: u86 :: u87 :: u88 :: u89 :: u90 :: u91 :: u92 :: u93 :: u94 :: u95 :: u96 :: u97 :: u98 :: u99 :: u100 :: u101 :: u102 :: u103 :: u104 :: u105 :: u106 :: u107 :: 
      u108 :: u109 :: u110 :: u111 :: u112 :: u113 :: u114 :: []), []⟩ w := by
  conv => arg 2; whnf
  refine Reg.region_spl [0, 1, 3, 0, 8, 24, 0, 64, 192, 511, 0, 2047] (.node 2 5 (.node 2 8 (.node 2 10 (.node 5 8 (.node 5 10 (.node 8 10 (.node 9 10 (.leaf [0, 1, 3, 4, 6, 7, 2, 5, 8, 9, 10, 11]) (.leaf [0, 1, 3, 4, 6, 7, 2, 5, 8, 10, 9, 11])) (.leaf [0, 1, 3, 4, 6, 7, 2, 5, 10, 8, 9, 11])) (.leaf [0, 1, 3, 4, 6, 7, 2, 10, 5, 8, 9, 11])) (.node 5 10 (.node 9 10 (.leaf [0, 1, 3, 4, 6, 7, 2, 8, 5, 9, 10, 11]) (.leaf [0, 1, 3, 4, 6, 7, 2, 8, 5, 10, 9, 11])) (.node 8 10 (.leaf [0, 1, 3, 4, 6, 7, 2, 8, 10, 5, 9, 11]) (.leaf [0, 1, 3, 4, 6, 7, 2, 10, 8, 5, 9, 11])))) (.node 5 8 (.leaf [0, 1, 3, 4, 6, 7, 10, 2, 5, 8, 9, 11]) (.leaf [0, 1, 3, 4, 6, 7, 10, 2, 8, 5, 9, 11]))) (.node 2 10 (.node 5 10 (.node 9 10 (.leaf [0, 1, 3, 4, 6, 7, 8, 2, 5, 9, 10, 11]) (.leaf [0, 1, 3, 4, 6, 7, 8, 2, 5, 10, 9, 11])) (.leaf [0, 1, 3, 4, 6, 7, 8, 2, 10, 5, 9, 11])) (.node 8 10 (.leaf [0, 1, 3, 4, 6, 7, 8, 10, 2, 5, 9, 11]) (.leaf [0, 1, 3, 4, 6, 7, 10, 8, 2, 5, 9, 11])))) (.node 2 8 (.node 2 10 (.node 8 10 (.node 9 10 (.leaf [0, 1, 3, 4, 6, 7, 5, 2, 8, 9, 10, 11]) (.leaf [0, 1, 3, 4, 6, 7, 5, 2, 8, 10, 9, 11])) (.leaf [0, 1, 3, 4, 6, 7, 5, 2, 10, 8, 9, 11])) (.node 5 10 (.leaf [0, 1, 3, 4, 6, 7, 5, 10, 2, 8, 9, 11]) (.leaf [0, 1, 3, 4, 6, 7, 10, 5, 2, 8, 9, 11]))) (.node 2 10 (.node 5 8 (.node 9 10 (.leaf [0, 1, 3, 4, 6, 7, 5, 8, 2, 9, 10, 11]) (.leaf [0, 1, 3, 4, 6, 7, 5, 8, 2, 10, 9, 11])) (.node 9 10 (.leaf [0, 1, 3, 4, 6, 7, 8, 5, 2, 9, 10, 11]) (.leaf [0, 1, 3, 4, 6, 7, 8, 5, 2, 10, 9, 11]))) (.node 5 8 (.node 5 10 (.node 8 10 (.leaf [0, 1, 3, 4, 6, 7, 5, 8, 10, 2, 9, 11]) (.leaf [0, 1, 3, 4, 6, 7, 5, 10, 8, 2, 9, 11])) (.leaf [0, 1, 3, 4, 6, 7, 10, 5, 8, 2, 9, 11])) (.node 5 10 (.leaf [0, 1, 3, 4, 6, 7, 8, 5, 10, 2, 9, 11]) (.node 8 10 (.leaf [0, 1, 3, 4, 6, 7, 8, 10, 5, 2, 9, 11]) (.leaf [0, 1, 3, 4, 6, 7, 10, 8, 5, 2, 9, 11]))))))) (by kernel_rfl) hN ?_
  dsimp only [Reg.Spl.goal]
  have hA := (AllB.nil w).drew
  repeat' (with_reducible refine And.intro ?_ ?_)
  all_goals
    refine Reg.rest_walkE [0, 1, 3, 4, 6, 7] _ rfl rfl (by kernel_rfl) ?_
    intro Qf hQf
    go_wp2_with fail
    rw [List.filterMap_nil]
    go_wp2_with fail
    iterate 6
      first
      | (refine Reg.rest_act' 2 _ [4, 7] rfl (by kernel_rfl) ?_
         intro Qf hQf
         simp only [List.getElem_toArray, List.getElem_cons_succ, List.getElem_cons_zero]
         refine wpList_make Try.underlying22 info3 (by omega) (by omega) S (by omega) rfl _ _ rfl rfl rfl ?_
         intro gs w1 hb hB hg
         refine hQf _ _ ⟨Reg.same_below hB _ rfl, ?_⟩
         replace hA := hA.add hB hb hg
         clear hQf hb hB hg)
      | (refine Reg.rest_act' 5 _ [1, 7] rfl (by kernel_rfl) ?_
         intro Qf hQf
         simp only [List.getElem_toArray, List.getElem_cons_succ, List.getElem_cons_zero]
         refine wpList_make Try.underlying22 info3 (by omega) (by omega) S (by omega) rfl _ _ rfl rfl rfl ?_
         intro gl w1 hb hB hg
         refine hQf _ _ ⟨Reg.same_below hB _ rfl, ?_⟩
         replace hA := hA.add hB hb hg
         clear hQf hb hB hg)
      | (refine Reg.rest_act' 8 _ [1, 4] rfl (by kernel_rfl) ?_
         intro Qf hQf
         simp only [List.getElem_toArray, List.getElem_cons_succ, List.getElem_cons_zero]
         refine wpList_make Try.underlying24 info59 (by omega) (by omega) S (by omega) rfl _ _ rfl rfl rfl ?_
         intro gf w1 hb hB hg
         refine hQf _ _ ⟨Reg.same_below hB _ rfl, ?_⟩
         replace hA := hA.add hB hb hg
         clear hQf hb hB hg)
      | (refine Reg.rest_walkE [10] _ rfl rfl (by kernel_rfl) ?_
         intro Qf hQf
         refine wpList_alloc info75 rfl rfl ?_
         intro g3 w1 hb hB hg
         refine hQf _ _ ?_
         replace hA := hA.add hB hb hg
         clear hQf hb hB hg)
      | (refine Reg.rest_walkE [9] _ rfl rfl (by kernel_rfl) ?_
         intro Qf hQf
         go_wp2_with fail
         rw [List.filterMap_nil]
         go_wp2_with fail)
      | (refine Reg.rest_walkE [11] _ rfl rfl (by kernel_rfl) ?_
         intro Qf hQf
         have hb3 := (hA.blk (g3, 75, #[.slice none 0 0, .slice none 0 0, .slice none 0 0]) (by simp [Value.cells])).1
         have hc3 := hb3.cell
         have hf3 := hb3.frozen
         have hl3 := hb3.lt
         clear hb3
         go_wp2_with fail)
    refine Reg.rest_end ?_
    obtain ⟨hbel, hblk, hnd⟩ := hA
    simp only [List.map_cons, List.map_nil, List.nodup_cons, List.mem_cons, List.not_mem_nil, not_or, or_false, List.nodup_nil, not_false_eq_true, and_true] at hnd
    refine hQ _ _ _ _ _ _ _ _ _ _ _ g3 gs gl gf ?_
    have hA2 : AllB w w1 [(g3, 75, #[.slice none 0 0, .slice none 0 0, .slice none 0 0]), (gs, 3, rowZ S), (gl, 3, rowZ S), (gf, 59, frZ S)] := by
      refine ⟨hbel, ?_, ?_⟩
      · intro x hx
        refine hblk x ?_
        simp only [List.mem_cons, List.not_mem_nil, or_false] at hx ⊢
        rcases hx with rfl | rfl | rfl | rfl
        · first | exact .inl rfl | exact .inr (.inl rfl) | exact .inr (.inr (.inl rfl)) | exact .inr (.inr (.inr rfl))
        · first | exact .inl rfl | exact .inr (.inl rfl) | exact .inr (.inr (.inl rfl)) | exact .inr (.inr (.inr rfl))
        · first | exact .inl rfl | exact .inr (.inl rfl) | exact .inr (.inr (.inl rfl)) | exact .inr (.inr (.inr rfl))
        · first | exact .inl rfl | exact .inr (.inl rfl) | exact .inr (.inr (.inl rfl)) | exact .inr (.inr (.inr rfl))
      · simp only [List.map_cons, List.map_nil, List.nodup_cons, List.mem_cons, List.not_mem_nil, not_or, or_false, List.nodup_nil, not_false_eq_true, and_true]
        omega
    exact hA2.set3 _ _ _
end Go.Proofs.Ytnimlcbgeiajiaa

namespace Go.Proofs.Ytnimlcbgeiajiaa
open Go.RowKit

/-- The memory of grow: the struct, sizes, letters of leaves, branches. -/
structure GroM (w0 w : World) (g3 gs gl gf S : Nat) (sz : List Nat) (lf : List Int) (fr : List Branch) : Prop where
  below : Below w0.heap.size w0 w
  b3 : Blk w g3 75 #[.slice (some ⟨gs, 0, none⟩) S S, .slice (some ⟨gl, 0, none⟩) S S, .slice (some ⟨gf, 0, none⟩) S S]
  bs : Blk w gs 3 (sz.map encN).toArray
  bl : Blk w gl 3 (lf.map (Value.int .i64)).toArray
  bf : Blk w gf 59 (fr.flatMap brCells).toArray
  h3 : w0.heap.size ≤ g3
  hs : w0.heap.size ≤ gs
  hl : w0.heap.size ≤ gl
  hf : w0.heap.size ≤ gf
  ne : gs ≠ gl
section
variable {w0 w w' : World} {g3 gs gl gf S : Nat} {sz : List Nat} {lf : List Int} {fr : List Branch}
theorem GroM.keep {X : Nat → Prop} (h : GroM w0 w g3 gs gl gf S sz lf fr) (hk : Kept w w' X) (h0 : ∀ b, b < w0.heap.size → ¬ X b) (n3 : ¬ X g3) (ns : ¬ X gs) (nl : ¬ X gl) (nf : ¬ X gf) : GroM w0 w' g3 gs gl gf S sz lf fr :=
  ⟨h.below.trans (hk.below h.below.size h0), h.b3.kept hk n3, h.bs.kept hk ns, h.bl.kept hk nl, h.bf.kept hk nf, h.h3, h.hs, h.hl, h.hf, h.ne⟩
theorem GroM.keep0 (h : GroM w0 w g3 gs gl gf S sz lf fr) (hk : Kept w w' (fun _ => False)) : GroM w0 w' g3 gs gl gf S sz lf fr := h.keep hk (fun _ _ x => x) id id id id
theorem encN_set (sz : List Nat) (q n : Nat) : ((sz.map encN).toArray).setIfInBounds q (.int .i64 (n : Int)) = ((sz.set q n).map encN).toArray := by
  apply Array.ext'
  simp [List.map_set, encN]
theorem int_set (lf : List Int) (q : Nat) (x : Int) : ((lf.map (Value.int .i64)).toArray).setIfInBounds q (.int .i64 x) = ((lf.set q x).map (Value.int .i64)).toArray := by
  apply Array.ext'
  simp [List.map_set]
theorem GroM.setS (h : GroM w0 w g3 gs gl gf S sz lf fr) (q n : Nat) : GroM w0 (w.setCell ⟨gs, q, none⟩ (.int .i64 (n : Int))) g3 gs gl gf S (sz.set q n) lf fr := by
  have hk : Kept w (w.setCell ⟨gs, q, none⟩ (.int .i64 (n : Int))) (fun k => k = gs) := (Kept.refl w (fun k => k = gs)).setCell (p := ⟨gs, q, none⟩) (fun _ => rfl) _
  have hb := h.bs.set_ q (.int .i64 (n : Int))
  rw [encN_set] at hb
  exact ⟨h.below.trans (hk.below h.below.size fun b hb e => by have := h.hs; omega), h.b3.kept hk (h.b3.ne_ h.bs (by decide)), hb, h.bl.kept hk (fun e => h.ne e.symm), h.bf.kept hk (h.bf.ne_ h.bs (by decide)), h.h3, h.hs, h.hl, h.hf, h.ne⟩
theorem GroM.setL (h : GroM w0 w g3 gs gl gf S sz lf fr) (q : Nat) (x : Int) : GroM w0 (w.setCell ⟨gl, q, none⟩ (.int .i64 x)) g3 gs gl gf S sz (lf.set q x) fr := by
  have hk : Kept w (w.setCell ⟨gl, q, none⟩ (.int .i64 x)) (fun k => k = gl) := (Kept.refl w (fun k => k = gl)).setCell (p := ⟨gl, q, none⟩) (fun _ => rfl) _
  have hb := h.bl.set_ q (.int .i64 x)
  rw [int_set] at hb
  exact ⟨h.below.trans (hk.below h.below.size fun b hb e => by have := h.hl; omega), h.b3.kept hk (h.b3.ne_ h.bl (by decide)), h.bs.kept hk h.ne, hb, h.bf.kept hk (h.bf.ne_ h.bl (by decide)), h.h3, h.hs, h.hl, h.hf, h.ne⟩
theorem GroM.cs (h : GroM w0 w g3 gs gl gf S sz lf fr) {q n : Nat} (hq : sz[q]? = some n) : w.cell? ⟨gs, q, none⟩ = some (.int .i64 (n : Int)) := by
  rw [h.bs.cell]
  simp [hq, encN]
theorem GroM.cl (h : GroM w0 w g3 gs gl gf S sz lf fr) {q : Nat} {x : Int} (hq : lf[q]? = some x) : w.cell? ⟨gl, q, none⟩ = some (.int .i64 x) := by
  rw [h.bl.cell]
  simp [hq]
theorem GroM.cf (h : GroM w0 w g3 gs gl gf S sz lf fr) {q : Nat} {b : Branch} (hq : fr[q]? = some b) (j : Nat) (hj : j < 4) : w.cell? ⟨gf, q * 4 + j, none⟩ = some (encBr b j) := by
  rw [h.bf.cell]
  simpa using flat4 fr q j b hq hj
end

set_option maxHeartbeats 8000000 in
set_option maxRecDepth 100000 in
theorem grow_leaves {a : TA} {L S c2 cap : Nat} (hF : a.Fits L S) (hcap : 1 ≤ cap) {w0 w : World} {g3 gs gl gf : Nat} {A2 : Option Addr} (h2 : Sl w0 w0.heap.size 2 encL A2 a.leaves) {sz : List Nat} {lf : List Int} {fr : List Branch}
    (hG : GroM w0 w g3 gs gl gf S sz lf fr) (hI : GroI a cap S sz lf fr)
    {u0 u1 u2 u4 u5 u6 u7 u8 u9 u10 u11 u12 u13 u14 u15 u16 u17 u18 u19 u20 u24 u25 u26 u27 u28 u29 u30 u31 u32 u33 u34 u35 u36 u37 u38 u39 u40 u41 u42 u43 u44 u45 u46 u47 u48 u49 u50 u51 u52 u53 u54 u55 u56 u57 u58 u59 u60 u61 u62 u63 u64 u65 u66 u67 u68 u69 u70 u71 u72 u73 u74 u75 u76 u77 u78 u79 u80 u81 u82 u83 u84 u85 u86 u87 u88 u89 u90 u91 u92 u93 u94 u95 u96 u97 u98 u99 u100 u101 u102 u103 u104 u105 u106 u107 u108 u109 u110 u111 u112 u113 u114 : Value}
    {Q : Exit → Act → World → Prop} (hN : Reg.NoQ Q)
    (hQ : ∀ (x5 x23 x24 x25 x26 x27 x28 x29 x30 x31 x32 x33 x34 x35 x36 x37 x38 x39 : Value) (w' : World) (sz' : List Nat) (lf' : List Int), GroM w0 w' g3 gs gl gf S sz' lf' fr → GroI a cap S sz' lf' fr → (∀ l ∈ a.leaves, szOf sz' l.to = 1) →
      Q (.exit 0) ⟨List.toArray (u0 :: u1 :: u2 :: (.pointer (some ⟨g3, 0, none⟩)) :: u4 :: x5 :: u6 :: u7 :: u8 :: u9 :: u10 :: u11 :: u12 :: u13 :: u14 :: u15 :: u16 :: u17 :: u18 :: u19 :: u20 :: (.slice A2 a.leaves.length c2) :: (.int .i64 (a.leaves.length : Int)) :: x23 :: x24 :: x25 :: 
      x26 :: x27 :: x28 :: x29 :: x30 :: x31 :: x32 :: x33 :: x34 :: x35 :: x36 :: x37 :: x38 :: x39 :: u40 :: u41 :: u42 :: u43 :: u44 :: u45 :: u46 :: u47 :: u48 :: u49 :: u50 :: u51 :: u52 :: u53 :: u54 :: u55 :: u56 :: u57 :: u58 :: u59 :: u60 :: u61 :: u62 :: 
      u63 :: u64 :: u65 :: u66 :: u67 :: u68 :: u69 :: u70 :: u71 :: u72 :: u73 :: u74 :: u75 :: u76 :: u77 :: u78 :: u79 :: u80 :: u81 :: u82 :: u83 :: u84 :: u85 :: u86 :: u87 :: u88 :: u89 :: u90 :: u91 :: u92 :: u93 :: u94 :: u95 :: u96 :: u97 :: u98 :: u99 :: 
      u100 :: u101 :: u102 :: u103 :: u104 :: u105 :: u106 :: u107 :: u108 :: u109 :: u110 :: u111 :: u112 :: u113 :: u114 :: []), []⟩ w') :
    (Code.loop (loopBody Try.f57 0)).wp Try.prog Q ⟨List.toArray (u0 :: u1 :: u2 :: (.pointer (some ⟨g3, 0, none⟩)) :: u4 :: u5 :: u6 :: u7 :: u8 :: u9 :: u10 :: u11 :: u12 :: u13 :: u14 :: u15 :: u16 :: u17 :: u18 :: u19 :: u20 :: (.slice A2 a.leaves.length c2) :: (.int .i64 (a.leaves.length : Int)) :: (.int .i64 0) :: u24 :: 
      u25 :: u26 :: u27 :: u28 :: u29 :: u30 :: u31 :: u32 :: u33 :: u34 :: u35 :: u36 :: u37 :: u38 :: u39 :: u40 :: u41 :: u42 :: u43 :: u44 :: u45 :: u46 :: u47 :: u48 :: u49 :: u50 :: u51 :: u52 :: u53 :: u54 :: u55 :: u56 :: u57 :: u58 :: u59 :: u60 :: u61 :: 
      u62 :: u63 :: u64 :: u65 :: u66 :: u67 :: u68 :: u69 :: u70 :: u71 :: u72 :: u73 :: u74 :: u75 :: u76 :: u77 :: u78 :: u79 :: u80 :: u81 :: u82 :: u83 :: u84 :: u85 :: u86 :: u87 :: u88 :: u89 :: u90 :: u91 :: u92 :: u93 :: u94 :: u95 :: u96 :: u97 :: u98 :: 
      u99 :: u100 :: u101 :: u102 :: u103 :: u104 :: u105 :: u106 :: u107 :: u108 :: u109 :: u110 :: u111 :: u112 :: u113 :: u114 :: []), []⟩ w := by
  conv => arg 2; arg 1; whnf
  have hn := h2.1
  go_loopw [23] (fun ii wr => ∃ (k : Nat) (sz' : List Nat) (lf' : List Int), ii = .int .i64 (k : Int) ∧ k ≤ a.leaves.length ∧ GroM w0 wr g3 gs gl gf S sz' lf' fr ∧ GroI a cap S sz' lf' fr ∧ Hid (∀ l ∈ a.leaves.take k, szOf sz' l.to = 1)) (fun ii _ => a.leaves.length - (intOf ii).toNat)
  case atStart => exact ⟨0, sz, lf, rfl, Nat.zero_le _, hG, hI, fun l hl => by simp at hl⟩
  case round =>
    obtain ⟨k, sz', lf', rfl, hk, hG', hI', hH⟩ := hrel
    by_cases hlt : k < a.leaves.length
    · obtain ⟨b, off, l, rfl, hbk, hx, hc⟩ := h2.at hlt
      obtain ⟨x, q, rfl, hxL, hqS⟩ := hF.lv l (List.mem_of_getElem? hx)
      have hcc := fun j hj => (hG'.below.cell (by exact hbk)).trans (hc j hj)
      have hc0 := hcc 0 (by omega)
      have hc1 := hcc 1 (by omega)
      simp only [Nat.add_zero, encL] at hc0 hc1
      obtain ⟨n, hq⟩ := get_lt (l := sz') (i := q) (by rw [hI'.len]; exact hqS)
      obtain ⟨y, hy⟩ := get_lt (l := lf') (i := q) (by rw [hI'.lenl]; exact hqS)
      have hX := hide hx
      have hGG := hide hG'
      have hII := hide hI'
      have hS64 := hF.S64
      have hqq := hide hq
      have hyy := hide hy
      clear hx hcc hc hG' hI' hq hy
      go_wp2_with fail
      obtain ⟨w2, hw2, hb2, hB2, hk2⟩ := box_blk wr #[.int .i64 (x : Int), .int .i64 (q : Int)] 36
      rw [hw2]
      have hG2 := (hGG.out.keep0 hk2)
      have hGd : GroM w0 w2.drew g3 gs gl gf S sz' lf' fr := hG2.keep0 ((Kept.refl w2 (fun _ => False)).drew)
      have hGS := hGd.setS q 1
      have hGL := hGS.setL q (x : Int)
      have hB2d : Blk w2.drew wr.heap.size 36 #[.int .i64 (x : Int), .int .i64 (q : Int)] := hB2
      have hB2s : Blk (w2.drew.setCell ⟨gs, q, none⟩ (.int .i64 ((1 : Nat) : Int))) wr.heap.size 36 #[.int .i64 (x : Int), .int .i64 (q : Int)] := hB2d.kept ((Kept.refl w2.drew (fun k => k = gs)).setCell (p := ⟨gs, q, none⟩) (fun _ => rfl) _) (hB2d.ne_ hG2.bs (by decide))
      have hc3 := hGd.b3.cell
      have hcb := hB2d.cell
      have hcs := hGd.cs hqq.out
      have hcl := hGd.cl hyy.out
      have hfs := hGd.bs.frozen q
      have hfl := hGd.bl.frozen q
      have h3g := hGd.b3.lt
      have hsg := hGd.bs.lt
      have hlg := hGd.bl.lt
      have hbg := hB2d.lt
      have hGGS := hide hGS
      have hGGL := hide hGL
      clear hw2 hGS hGL
      refine Reg.region_cut [0, 1, 0, 4, 0, 16, 0, 64, 0, 256, 15, 1039, 4095, 8191] [0, 1, 2, 3, 4, 5, 6, 7, 8, 9, 10, 11, 12, 13] (by kernel_rfl) (by repeat (first | exact hN | refine Reg.NoQ.then ?_ | refine Reg.NoQ.inBlock ?_)) ?_
      refine Reg.rest_walkE [0, 1, 2, 3, 4, 5, 6, 7, 8, 9, 10] _ rfl rfl (by kernel_rfl) ?_
      intro Qf hQf
      go_wp2_with fail
      rw [List.filterMap_nil]
      go_wp2_with fail
      refine Reg.rest_act' 11 _ [5, 7, 9] rfl (by kernel_rfl) ?_
      intro Qf hQf
      simp only [List.getElem_toArray, List.getElem_cons_succ, List.getElem_cons_zero]
      go_wp2_with fail
      refine ⟨?_, ?_⟩
      · intro z hz qo hqo
        simp only [List.mem_cons, List.not_mem_nil, or_false] at hz
        rcases hz with rfl | rfl | rfl
        · injection hqo with hqo
          subst hqo
          exact Reg.same_load1 rfl rfl (hGd.b3.cell 1) (hGGS.out.b3.cell 1) Try.underlying22 rfl
        · injection hqo with hqo
          subst hqo
          exact Reg.same_load1 rfl rfl (hB2d.cell 1) (hB2s.cell 1) Try.underlying3 rfl
        · injection hqo with hqo
          subst hqo
          exact Reg.same_load1 rfl rfl (hB2d.cell 0) (hB2s.cell 0) Try.underlying3 rfl
      · obtain ⟨w3, hw3⟩ : ∃ w3, (w2.setCell ⟨gs, q, none⟩ (.int .i64 1)).drew = w3 := ⟨_, rfl⟩
        have hS3 : GroM w0 w3 g3 gs gl gf S (sz'.set q 1) lf' fr := by rw [← hw3]; exact hGGS.out
        have hGL3 := hide (hS3.setL q (x : Int))
        rw [hw3]
        have hcl2 := hS3.cl hyy.out
        have hfl2 := hS3.bl.frozen q
        have hlg2 := hS3.bl.lt
        clear hcs hcl hfs hfl h3g hsg hlg hbg hcb hc3 hc0 hc1 hS3
        refine Reg.rest_walkE [12, 13] _ rfl rfl (by kernel_rfl) ?_
        intro Qf hQf
        go_wp2_with fail
        refine hQf _ _ ?_
        refine Reg.rest_end ?_
        go_wp2_with fail
        exact ⟨⟨k + 1, _, _, by go_num, by omega, hGL3.out, hII.out.leaf hF hcap (List.mem_of_getElem? hX.out) hqS, lv_add hX.out (by rw [hII.out.len]; exact hqS) (fun l hl => by obtain ⟨_, _, rfl, _⟩ := hF.lv l hl; simp) hH.out⟩, by simp [intOf]; omega⟩
    · have hI2 := hI'
      have hH2 : Hid (∀ l ∈ a.leaves, szOf sz' l.to = 1) := by
        have := hH.out
        rwa [List.take_of_length_le (by omega)] at this
      go_wp2_with fail
      exact hQ _ _ _ _ _ _ _ _ _ _ _ _ _ _ _ _ _ _ wr sz' lf' hG' hI2 hH2.out
end Go.Proofs.Ytnimlcbgeiajiaa

namespace Go.Proofs.Ytnimlcbgeiajiaa
open Go.RowKit

namespace Reg
theorem same_loadR {P : Program} {ops : Array Oper} {q : Oper} {b : Act} {w w' : World} {ty : TypeId} {x : Operand} {g o : Nat} {cs : List Value} {d : TypeDesc} (ho : q.op = .load ty x) (hx : b.eval x = .pointer (some ⟨g, o, none⟩))
    (hc : w.rangeAt g o cs) (hc' : w'.rangeAt g o cs) (hu : P.underlying ty = some d) (hd : d.isRow = true) (hi : (P.info? ty).map (·.size) = some cs.length) : Same P ops q b w w' := by
  intro _ v hv
  obtain ⟨dst, op, type, pos, after, guard⟩ := q
  dsimp only at ho
  subst ho
  have e : ∀ w1 : World, w1.rangeAt g o cs → (execOp b.eval { dst, op := .load ty x, type, pos, after, guard }).run P w1 = .ok (.value (.agg cs.toArray)) w1 := fun w1 h => by
    show ((Instr.loadAt ty (b.eval x)) >>= fun v => (Pure.pure (Next.value v) : Sem Next)).run P w1 = _
    rw [hx]
    exact run_value (run_loadAt_mid w1 g o ty cs d h hu hd hi)
  rw [e w hc] at hv
  injection hv with hv _
  rw [← hv]
  exact e w' hc'
end Reg
theorem Blk.range {w : World} {g : Nat} {t : TypeId} {cs : Array Value} (h : Blk w g t cs) : w.rangeAt g 0 cs.toList := fun j v hv => by
  rw [Nat.zero_add, h.cell]
  simpa using hv

def set4 (w : World) (g o : Nat) (v0 v1 v2 v3 : Value) : World := (((w.setCell ⟨g, o, none⟩ v0).setCell ⟨g, o + 1, none⟩ v1).setCell ⟨g, o + 2, none⟩ v2).setCell ⟨g, o + 3, none⟩ v3
theorem flat4_set (b : Branch) : ∀ (l : List Branch) (q : Nat), q < l.length →
    ((((((l.flatMap brCells).set (q * 4) (.int .i64 b.letter)).set (q * 4 + 1) (.int .i64 b.first)).set (q * 4 + 2) (.int .i64 b.second)).set (q * 4 + 3) (.int .i64 b.to))) = (l.set q b).flatMap brCells
  | [], q, h => by simp at h
  | c :: l, 0, _ => rfl
  | c :: l, q + 1, h => by
    have ih := flat4_set b l q (by simpa using h)
    rw [List.set_cons_succ, List.flatMap_cons, List.flatMap_cons, ← ih]
    have e : (q + 1) * 4 = q * 4 + 3 + 1 := by omega
    rw [e]
    rfl
theorem GroM.setF {w0 w : World} {g3 gs gl gf S : Nat} {sz : List Nat} {lf : List Int} {fr : List Branch} (h : GroM w0 w g3 gs gl gf S sz lf fr) {q : Nat} (b : Branch) (hq : q < fr.length) :
    GroM w0 (set4 w gf (q * 4) (.int .i64 b.letter) (.int .i64 b.first) (.int .i64 b.second) (.int .i64 b.to)) g3 gs gl gf S sz lf (fr.set q b) := by
  have hk : Kept w (set4 w gf (q * 4) (.int .i64 b.letter) (.int .i64 b.first) (.int .i64 b.second) (.int .i64 b.to)) (fun k => k = gf) :=
    ((((Kept.refl w (fun k => k = gf)).setCell (p := ⟨gf, q * 4, none⟩) (fun _ => rfl) _).setCell (p := ⟨gf, q * 4 + 1, none⟩) (fun _ => rfl) _).setCell (p := ⟨gf, q * 4 + 2, none⟩) (fun _ => rfl) _).setCell (p := ⟨gf, q * 4 + 3, none⟩) (fun _ => rfl) _
  have hb := (((h.bf.set_ (q * 4) (.int .i64 b.letter)).set_ (q * 4 + 1) (.int .i64 b.first)).set_ (q * 4 + 2) (.int .i64 b.second)).set_ (q * 4 + 3) (.int .i64 b.to)
  have e : ((((((fr.flatMap brCells).toArray).setIfInBounds (q * 4) (.int .i64 b.letter)).setIfInBounds (q * 4 + 1) (.int .i64 b.first)).setIfInBounds (q * 4 + 2) (.int .i64 b.second)).setIfInBounds (q * 4 + 3) (.int .i64 b.to)) = ((fr.set q b).flatMap brCells).toArray := by
    apply Array.ext'
    rw [← flat4_set b fr q hq]
    simp
  rw [e] at hb
  exact ⟨h.below.trans (hk.below h.below.size fun b hb e => by have := h.hf; omega), h.b3.kept hk (h.b3.ne_ h.bf (by decide)), h.bs.kept hk (h.bs.ne_ h.bf (by decide)), h.bl.kept hk (h.bl.ne_ h.bf (by decide)), hb, h.h3, h.hs, h.hl, h.hf, h.ne⟩

set_option maxHeartbeats 8000000 in
set_option maxRecDepth 100000 in
theorem grow_note {w0 w : World} {g3 gs gl gf gb S N x p r q n : Nat} {y : Int} {z : Branch} {sz : List Nat} {lf : List Int} {fr : List Branch}
    (hG : GroM w0 w g3 gs gl gf S sz lf fr) (hB : Blk w gb 59 #[.int .i64 (x : Int), .int .i64 (p : Int), .int .i64 (r : Int), .int .i64 (q : Int)]) (hqS : q < S) (hn : sz[q]? = some n) (hy : lf[q]? = some y) (hz : fr[q]? = some z)
    {u0 u1 u2 u4 u5 u6 u7 u10 u11 u12 u13 u14 u15 u16 u17 u18 u19 u20 u21 u22 u23 u24 u25 u26 u27 u28 u29 u30 u31 u32 u33 u34 u35 u36 u37 u38 u39 u40 u41 u42 u43 u44 u45 u46 u47 u48 u49 u50 u51 u52 u53 u54 u55 u56 u57 u58 u59 u60 u61 u62 u63 u64 u65 u66 u67 u68 u69 u70 u71 u72 u73 u74 u75 u76 u77 u78 u79 u80 u81 u82 u83 u84 u85 u86 u87 u88 u89 u90 u91 u92 u93 u94 u95 u96 u97 u98 u99 u100 u101 u102 u103 u104 u105 u106 u107 u108 u109 u110 u111 u112 u113 u114 : Value}
    {Q : Exit → Act → World → Prop} (hN : Reg.NoQ Q)
    (hQ : ∀ (x96 x97 x98 x99 x100 x101 x102 x103 x104 x105 x106 x107 x108 x109 x110 x111 x112 : Value) (w' : World), GroM w0 w' g3 gs gl gf S (sz.set q N) (lf.set q (-1)) (fr.set q ⟨x, p, r, q⟩) →
      Q .normal ⟨List.toArray (u0 :: u1 :: u2 :: (.pointer (some ⟨g3, 0, none⟩)) :: u4 :: u5 :: u6 :: u7 :: (.pointer (some ⟨gb, 0, none⟩)) :: (.int .i64 (N : Int)) :: u10 :: u11 :: u12 :: u13 :: u14 :: u15 :: u16 :: u17 :: u18 :: u19 :: u20 :: u21 :: u22 :: u23 :: u24 :: u25 :: u26 :: u27 :: 
      u28 :: u29 :: u30 :: u31 :: u32 :: u33 :: u34 :: u35 :: u36 :: u37 :: u38 :: u39 :: u40 :: u41 :: u42 :: u43 :: u44 :: u45 :: u46 :: u47 :: u48 :: u49 :: u50 :: u51 :: u52 :: u53 :: u54 :: u55 :: u56 :: u57 :: u58 :: u59 :: u60 :: u61 :: u62 :: u63 :: u64 :: 
      u65 :: u66 :: u67 :: u68 :: u69 :: u70 :: u71 :: u72 :: u73 :: u74 :: u75 :: u76 :: u77 :: u78 :: u79 :: u80 :: u81 :: u82 :: u83 :: u84 :: u85 :: u86 :: u87 :: u88 :: u89 :: u90 :: u91 :: u92 :: u93 :: u94 :: u95 :: x96 :: x97 :: x98 :: x99 :: x100 :: x101 :: 
      x102 :: x103 :: x104 :: x105 :: x106 :: x107 :: x108 :: x109 :: x110 :: x111 :: x112 :: u113 :: u114 :: []), []⟩ w') :
    (regionAt Try.f57 16).wp Try.prog Q ⟨List.toArray (u0 :: u1 :: u2 :: (.pointer (some ⟨g3, 0, none⟩)) :: u4 :: u5 :: u6 :: u7 :: (.pointer (some ⟨gb, 0, none⟩)) :: (.int .i64 (N : Int)) :: u10 :: u11 :: u12 :: u13 :: u14 :: u15 :: u16 :: u17 :: u18 :: u19 :: u20 :: u21 :: u22 :: u23 :: u24 :: u25 :: u26 :: u27 :: 
      u28 :: u29 :: u30 :: u31 :: u32 :: u33 :: u34 :: u35 :: u36 :: u37 :: u38 :: u39 :: u40 :: u41 :: u42 :: u43 :: u44 :: u45 :: u46 :: u47 :: u48 :: u49 :: u50 :: u51 :: u52 :: u53 :: u54 :: u55 :: u56 :: u57 :: u58 :: u59 :: u60 :: u61 :: u62 :: u63 :: u64 :: 
      u65 :: u66 :: u67 :: u68 :: u69 :: u70 :: u71 :: u72 :: u73 :: u74 :: u75 :: u76 :: u77 :: u78 :: u79 :: u80 :: u81 :: u82 :: u83 :: u84 :: u85 :: u86 :: u87 :: u88 :: u89 :: u90 :: u91 :: u92 :: u93 :: u94 :: u95 :: u96 :: u97 :: u98 :: u99 :: u100 :: u101 :: 
      u102 :: u103 :: u104 :: u105 :: u106 :: u107 :: u108 :: u109 :: u110 :: u111 :: u112 :: u113 :: u114 :: []), []⟩ w := by
  conv => arg 2; whnf
  have hGd : GroM w0 w.drew g3 gs gl gf S sz lf fr := hG.keep0 ((Kept.refl w (fun _ => False)).drew)
  have hBd : Blk w.drew gb 59 #[.int .i64 (x : Int), .int .i64 (p : Int), .int .i64 (r : Int), .int .i64 (q : Int)] := hB
  obtain ⟨wd, hwd⟩ : ∃ wd, w.drew = wd := ⟨_, rfl⟩
  refine Reg.region_cut [0, 1, 0, 4, 0, 16, 0, 64, 0, 256, 0, 1024, 0, 0, 4111, 20495, 53503, 119039, 262143, 524287] [0, 1, 2, 3, 4, 5, 6, 7, 8, 9, 10, 11, 12, 13, 14, 15, 16, 17, 18, 19] (by kernel_rfl) hN ?_
  rw [hwd] at hGd hBd ⊢
  clear hG hB hwd
  have hGG := hide hGd
  have hBB := hide hBd
  have hNN := hide hn
  have hYY := hide hy
  have hZZ := hide hz
  have hc3 := hGd.b3.cell
  have hcb := hBd.cell
  have hcs := hGd.cs hn
  have hfs := hGd.bs.frozen q
  have h3g := hGd.b3.lt
  have hsg := hGd.bs.lt
  have hbg := hBd.lt
  clear hGd hBd hn hy hz
  refine Reg.rest_walkE [0, 1, 2, 3, 4, 5, 6, 7, 8, 9, 10, 11, 12, 13, 14] _ rfl rfl (by kernel_rfl) ?_
  intro Qf hQf
  go_wp2_with fail
  refine hQf _ _ ?_
  clear hQf
  refine Reg.rest_act' 15 _ [5, 7, 9, 11, 13] rfl (by kernel_rfl) ?_
  intro Qf hQf
  simp only [List.getElem_toArray, List.getElem_cons_succ, List.getElem_cons_zero]
  go_wp2_with fail
  obtain ⟨w1, hw1⟩ : ∃ w1, wd.setCell ⟨gs, q, none⟩ (.int .i64 (N : Int)) = w1 := ⟨_, rfl⟩
  have hG1 := hGG.out.setS q N
  have hB1 := hBB.out.kept ((Kept.refl wd (fun k => k = gs)).setCell (p := ⟨gs, q, none⟩) (fun _ => rfl) (.int .i64 (N : Int))) (hBB.out.ne_ hGG.out.bs (by decide))
  rw [hw1] at hG1 hB1 ⊢
  refine ⟨?_, ?_⟩
  · intro zz hz qo hqo
    simp only [List.mem_cons, List.not_mem_nil, or_false] at hz
    rcases hz with rfl | rfl | rfl | rfl | rfl
    · injection hqo with hqo
      subst hqo
      exact Reg.same_load1 rfl rfl (hGG.out.b3.cell 1) (hG1.b3.cell 1) Try.underlying22 rfl
    · injection hqo with hqo
      subst hqo
      exact Reg.same_load1 rfl rfl (hBB.out.cell 3) (hB1.cell 3) Try.underlying3 rfl
    · injection hqo with hqo
      subst hqo
      exact Reg.same_load1 rfl rfl (hGG.out.b3.cell 2) (hG1.b3.cell 2) Try.underlying24 rfl
    · injection hqo with hqo
      subst hqo
      exact Reg.same_load1 rfl rfl (hBB.out.cell 3) (hB1.cell 3) Try.underlying3 rfl
    · injection hqo with hqo
      subst hqo
      exact Reg.same_loadR rfl rfl hBB.out.range hB1.range Try.underlying59 rfl (by kernel_rfl)
  · have hcl1 := hG1.cl hYY.out
    have hfl1 := hG1.bl.frozen q
    have hlg1 := hG1.bl.lt
    refine Reg.rest_walkE [16] _ rfl rfl (by kernel_rfl) ?_
    clear hcs hfs hc3 hcb h3g hsg hbg
    intro Qf hQf
    go_wp2_with fail
    refine hQf _ _ ?_
    clear hQf
    refine Reg.rest_act' 17 _ [9, 11, 13] rfl (by kernel_rfl) ?_
    intro Qf hQf
    simp only [List.getElem_toArray, List.getElem_cons_succ, List.getElem_cons_zero]
    go_wp2_with fail
    obtain ⟨w2, hw2⟩ : ∃ w2, w1.setCell ⟨gl, q, none⟩ (.int .i64 (-1)) = w2 := ⟨_, rfl⟩
    have hG2 := hG1.setL q (-1)
    have hB2 := hB1.kept ((Kept.refl w1 (fun k => k = gl)).setCell (p := ⟨gl, q, none⟩) (fun _ => rfl) (.int .i64 (-1))) (hB1.ne_ hG1.bl (by decide))
    rw [hw2] at hG2 hB2 ⊢
    refine ⟨?_, ?_⟩
    · intro zz hz qo hqo
      simp only [List.mem_cons, List.not_mem_nil, or_false] at hz
      rcases hz with rfl | rfl | rfl
      · injection hqo with hqo
        subst hqo
        exact Reg.same_load1 rfl rfl (hG1.b3.cell 2) (hG2.b3.cell 2) Try.underlying24 rfl
      · injection hqo with hqo
        subst hqo
        exact Reg.same_load1 rfl rfl (hB1.cell 3) (hB2.cell 3) Try.underlying3 rfl
      · injection hqo with hqo
        subst hqo
        exact Reg.same_loadR rfl rfl hB1.range hB2.range Try.underlying59 rfl (by kernel_rfl)
    · have hfc0 := hG2.cf hZZ.out 0 (by omega)
      have hfc1 := hG2.cf hZZ.out 1 (by omega)
      have hfc2 := hG2.cf hZZ.out 2 (by omega)
      have hfc3 := hG2.cf hZZ.out 3 (by omega)
      simp only [Nat.add_zero, encBr] at hfc0 hfc1 hfc2 hfc3
      have hff0 := hG2.bf.frozen (q * 4)
      have hff1 := hG2.bf.frozen (q * 4 + 1)
      have hff2 := hG2.bf.frozen (q * 4 + 2)
      have hff3 := hG2.bf.frozen (q * 4 + 3)
      have hfl2 := hG2.bf.lt
      have hqf : q < fr.length := lt_of_get hZZ.out
      have hGF := hide (hG2.setF ⟨x, p, r, q⟩ hqf)
      refine Reg.rest_walkE [18, 19] _ rfl rfl (by kernel_rfl) ?_
      clear hcl1 hfl1 hlg1
      intro Qf hQf
      go_wp2_with fail
      refine Reg.rest_end ?_
      exact hQ _ _ _ _ _ _ _ _ _ _ _ _ _ _ _ _ _ _ hGF.out
end Go.Proofs.Ytnimlcbgeiajiaa

namespace Go.Proofs.Ytnimlcbgeiajiaa
open Go.RowKit

def cap40 : Nat := 1099511627776
/-- What a round over branches has done so far. -/
structure Rnd (a : TA) (sz0 sz : List Nat) (k : Nat) (again : Bool) : Prop where
  no : again = false → sz = sz0 ∧ ∀ b ∈ a.branches.take k, Stable cap40 sz0 b
  yes : again = true → szSum cap40 sz < szSum cap40 sz0
theorem Rnd.start (a : TA) (sz : List Nat) : Rnd a sz sz 0 false := ⟨fun _ => ⟨rfl, fun b h => by simp at h⟩, fun h => by cases h⟩
theorem Rnd.skip {a : TA} {sz0 sz : List Nat} {k : Nat} {f : Bool} {b : Branch} (h : Rnd a sz0 sz k f) (hb : a.branches[k]? = some b) (hs : Stable cap40 sz b) : Rnd a sz0 sz (k + 1) f :=
  ⟨fun e => by
    obtain ⟨rfl, h2⟩ := h.no e
    refine ⟨rfl, fun b' hb' => ?_⟩
    rw [List.take_add_one, hb] at hb'
    simp only [Option.toList_some, List.mem_append, List.mem_singleton] at hb'
    rcases hb' with hb' | rfl
    · exact h2 b' hb'
    · exact hs, h.yes⟩
theorem Rnd.hit {a : TA} {sz0 sz sz' : List Nat} {k : Nat} {f : Bool} (h : Rnd a sz0 sz k f) (hs : szSum cap40 sz' < szSum cap40 sz) : Rnd a sz0 sz' (k + 1) true :=
  ⟨fun e => by (cases e), fun _ => by
    cases f with
    | false => rw [← (h.no rfl).1]; exact hs
    | true => have := h.yes rfl; omega⟩

set_option maxHeartbeats 8000000 in
set_option maxRecDepth 100000 in
theorem grow_round {a : TA} {L S c3 : Nat} (hF : a.Fits L S) {w0 w : World} {g3 gs gl gf : Nat} {A3 : Option Addr} (h2 : Sl w0 w0.heap.size 4 encBr A3 a.branches) {sz : List Nat} {lf : List Int} {fr : List Branch}
    (hG : GroM w0 w g3 gs gl gf S sz lf fr) (hI : GroI a cap40 S sz lf fr) (hV : ∀ l ∈ a.leaves, szOf sz l.to = 1)
    {u0 u1 u2 u4 u5 u7 u8 u9 u10 u11 u12 u13 u14 u15 u16 u17 u18 u19 u20 u21 u22 u23 u24 u25 u26 u27 u28 u29 u30 u31 u32 u33 u34 u35 u36 u37 u38 u39 u40 u41 u45 u46 u47 u48 u49 u50 u51 u52 u53 u54 u55 u56 u57 u58 u59 u60 u61 u62 u63 u64 u65 u66 u67 u68 u69 u70 u71 u72 u73 u74 u75 u76 u77 u78 u79 u80 u81 u82 u83 u84 u85 u86 u87 u88 u89 u90 u91 u92 u93 u94 u95 u96 u97 u98 u99 u100 u101 u102 u103 u104 u105 u106 u107 u108 u109 u110 u111 u112 u113 u114 : Value}
    {Q : Exit → Act → World → Prop} (hN : Reg.NoQ Q)
    (hQ : ∀ (x8 x9 x44 x45 x46 x47 x48 x49 x50 x51 x52 x53 x54 x55 x56 x57 x58 x59 x60 x61 x62 x63 x64 x65 x66 x67 x68 x69 x70 x71 x72 x73 x74 x75 x76 x77 x78 x79 x80 x81 x82 x83 x84 x85 x86 x87 x88 x89 x90 x91 x92 x93 x94 x95 x96 x97 x98 x99 x100 x101 x102 x103 x104 x105 x106 x107 x108 x109 x110 x111 x112 x113 : Value) (w' : World) (f : Bool) (sz' : List Nat) (lf' : List Int) (fr' : List Branch), GroM w0 w' g3 gs gl gf S sz' lf' fr' → GroI a cap40 S sz' lf' fr' → (∀ l ∈ a.leaves, szOf sz' l.to = 1) → Rnd a sz sz' a.branches.length f →
      Q (.exit 4) ⟨List.toArray (u0 :: u1 :: u2 :: (.pointer (some ⟨g3, 0, none⟩)) :: u4 :: u5 :: (.bool f) :: u7 :: x8 :: x9 :: u10 :: u11 :: u12 :: u13 :: u14 :: u15 :: u16 :: u17 :: u18 :: u19 :: u20 :: u21 :: u22 :: u23 :: u24 :: u25 :: u26 :: u27 :: u28 :: u29 :: u30 :: u31 :: u32 :: u33 :: 
      u34 :: u35 :: u36 :: u37 :: u38 :: u39 :: u40 :: u41 :: (.slice A3 a.branches.length c3) :: (.int .i64 (a.branches.length : Int)) :: x44 :: x45 :: x46 :: x47 :: x48 :: x49 :: x50 :: x51 :: x52 :: x53 :: x54 :: x55 :: x56 :: x57 :: x58 :: x59 :: x60 :: x61 :: 
      x62 :: x63 :: x64 :: x65 :: x66 :: x67 :: x68 :: x69 :: x70 :: x71 :: x72 :: x73 :: x74 :: x75 :: x76 :: x77 :: x78 :: x79 :: x80 :: x81 :: x82 :: x83 :: x84 :: x85 :: x86 :: x87 :: x88 :: x89 :: x90 :: x91 :: x92 :: x93 :: x94 :: x95 :: x96 :: x97 :: x98 :: 
      x99 :: x100 :: x101 :: x102 :: x103 :: x104 :: x105 :: x106 :: x107 :: x108 :: x109 :: x110 :: x111 :: x112 :: x113 :: u114 :: []), []⟩ w') :
    (Code.loop (loopBody Try.f57 2)).wp Try.prog Q ⟨List.toArray (u0 :: u1 :: u2 :: (.pointer (some ⟨g3, 0, none⟩)) :: u4 :: u5 :: (.bool false) :: u7 :: u8 :: u9 :: u10 :: u11 :: u12 :: u13 :: u14 :: u15 :: u16 :: u17 :: u18 :: u19 :: u20 :: u21 :: u22 :: u23 :: u24 :: u25 :: u26 :: u27 :: u28 :: u29 :: u30 :: u31 :: u32 :: 
      u33 :: u34 :: u35 :: u36 :: u37 :: u38 :: u39 :: u40 :: u41 :: (.slice A3 a.branches.length c3) :: (.int .i64 (a.branches.length : Int)) :: (.int .i64 0) :: u45 :: u46 :: u47 :: u48 :: u49 :: u50 :: u51 :: u52 :: u53 :: u54 :: u55 :: u56 :: u57 :: u58 :: u59 :: 
      u60 :: u61 :: u62 :: u63 :: u64 :: u65 :: u66 :: u67 :: u68 :: u69 :: u70 :: u71 :: u72 :: u73 :: u74 :: u75 :: u76 :: u77 :: u78 :: u79 :: u80 :: u81 :: u82 :: u83 :: u84 :: u85 :: u86 :: u87 :: u88 :: u89 :: u90 :: u91 :: u92 :: u93 :: u94 :: u95 :: u96 :: 
      u97 :: u98 :: u99 :: u100 :: u101 :: u102 :: u103 :: u104 :: u105 :: u106 :: u107 :: u108 :: u109 :: u110 :: u111 :: u112 :: u113 :: u114 :: []), []⟩ w := by
  conv => arg 2; arg 1; whnf
  have hn := h2.1
  go_loopw [6, 44] (fun ff ii wr => ∃ (k : Nat) (f : Bool) (sz' : List Nat) (lf' : List Int) (fr' : List Branch), ii = .int .i64 (k : Int) ∧ ff = .bool f ∧ k ≤ a.branches.length ∧ GroM w0 wr g3 gs gl gf S sz' lf' fr' ∧ GroI a cap40 S sz' lf' fr' ∧ Hid (∀ l ∈ a.leaves, szOf sz' l.to = 1) ∧ Rnd a sz sz' k f) (fun _ ii _ => a.branches.length - (intOf ii).toNat)
  case atStart => exact ⟨0, false, sz, lf, fr, rfl, rfl, Nat.zero_le _, hG, hI, hV, Rnd.start a sz⟩
  case round =>
    obtain ⟨k, f, sz', lf', fr', rfl, rfl, hk, hG', hI', hH, hR⟩ := hrel
    by_cases hlt : k < a.branches.length
    · obtain ⟨b, off, l, rfl, hbk, hx, hc⟩ := h2.at hlt
      obtain ⟨x, p, r, q, rfl, hxL, hpS, hrS, hqS⟩ := hF.br l (List.mem_of_getElem? hx)
      have hcc := fun j hj => (hG'.below.cell (by exact hbk)).trans (hc j hj)
      have hc0 := hcc 0 (by omega)
      have hc1 := hcc 1 (by omega)
      have hc2 := hcc 2 (by omega)
      have hc3 := hcc 3 (by omega)
      simp only [Nat.add_zero, encBr] at hc0 hc1 hc2 hc3
      obtain ⟨n1, hn1⟩ := get_lt (l := sz') (i := p) (by rw [hI'.len]; exact hpS)
      obtain ⟨n2, hn2⟩ := get_lt (l := sz') (i := r) (by rw [hI'.len]; exact hrS)
      obtain ⟨n3, hn3⟩ := get_lt (l := sz') (i := q) (by rw [hI'.len]; exact hqS)
      obtain ⟨y, hy⟩ := get_lt (l := lf') (i := q) (by rw [hI'.lenl]; exact hqS)
      obtain ⟨z, hz⟩ := get_lt (l := fr') (i := q) (by rw [hI'.lenf]; exact hqS)
      have e1 := szOf_get hn1
      have e2 := szOf_get hn2
      have e3 := szOf_get hn3
      have l1 := hI'.le p
      have l2 := hI'.le r
      have l3 := hI'.le q
      rw [e1] at l1
      rw [e2] at l2
      rw [e3] at l3
      unfold cap40 at l1 l2 l3
      have E1 := hide e1
      have E2 := hide e2
      have E3 := hide e3
      have hX := hide hx
      have hII := hide hI'
      have hRR := hide hR
      have hS64 := hF.S64
      obtain ⟨w2, hw2, hb2, hB2, hk2⟩ := box_blk wr #[.int .i64 (x : Int), .int .i64 (p : Int), .int .i64 (r : Int), .int .i64 (q : Int)] 59
      have hG2 := hG'.keep0 hk2
      have hcb := hB2.cell
      have hc3' := hG2.b3.cell
      have hcs1 := hG2.cs hn1
      have hcs2 := hG2.cs hn2
      have hcs3 := hG2.cs hn3
      have hHG2 := hide hG2
      have hHB2 := hide hB2
      have hn33 := hide hn3
      have hyy := hide hy
      have hzz := hide hz
      have h3g := hG2.b3.lt
      have hsg := hG2.bs.lt
      have hbg := hB2.lt
      clear hx hcc hc hG' hI' hn1 hn2 hn3 hy hz e1 e2 e3 hR hG2 hB2 hb2 hk2
      by_cases h1 : n1 = 0
      · subst h1
        go_wp2_with fail
        exact ⟨⟨k + 1, f, sz', lf', fr', by go_num, rfl, by omega, hHG2.out, hII.out, hH, hRR.out.skip hX.out (fun h => absurd E1.out h)⟩, by simp [intOf]; omega⟩
      · by_cases h2' : n2 = 0
        · subst h2'
          go_wp2_with fail
          exact ⟨⟨k + 1, f, sz', lf', fr', by go_num, rfl, by omega, hHG2.out, hII.out, hH, hRR.out.skip hX.out (fun _ h => absurd E2.out h)⟩, by simp [intOf]; omega⟩
        · have hz1 : ((n1 : Int) == 0) = false := by simp; omega
          have hz2 : ((n2 : Int) == 0) = false := by simp; omega
          go_wp2_with fail
          refine Reg.region_ints' [0, 1, 0, 4, 15, 31, 63, 0, 128, 0, 512, 1920, 3968, 8191, 16383, 32767] (by kernel_rfl) (by repeat (first | exact hN | refine Reg.NoQ.then ?_ | refine Reg.NoQ.inBlock ?_)) ?_
          intro Qf hQf
          go_wp2_with fail
          all_goals refine ⟨rfl, ?_⟩
          case' inl =>
            have e : (1099511627776 : Int) = ((min (1 + n1 + n2) cap40 : Nat) : Int) := by unfold cap40; omega
            rw [e]
          case' inr =>
            have e : (1 : Int) + (n1 : Int) + (n2 : Int) = ((min (1 + n1 + n2) cap40 : Nat) : Int) := by unfold cap40; omega
            rw [e]
          all_goals
            clear h hc0 hc1 hc2 hc3
            obtain ⟨N, hN0⟩ : ∃ N, min (1 + n1 + n2) cap40 = N := ⟨_, rfl⟩
            rw [hN0]
            have hN1 : N ≤ 1099511627776 := by rw [← hN0]; unfold cap40; omega
            have hN2 : N ≠ 0 := by rw [← hN0]; unfold cap40; omega
            have HN := hide hN0
            have HN2 := hide hN2
            have hst : N = n3 ∨ n3 < N → n3 ≠ 0 → Stable cap40 sz' ⟨x, p, r, q⟩ := fun h h3 _ _ => by
              show szOf sz' q ≠ 0 ∧ szOf sz' q ≤ min (1 + szOf sz' p + szOf sz' r) cap40
              rw [E1.out, E2.out, E3.out, HN.out]
              omega
            have HST := hide hst
            clear hN0 hst hN2
            have hdo : n3 = 0 ∨ N < n3 → ∀ w', GroM w0 w' g3 gs gl gf S (sz'.set q N) (lf'.set q (-1)) (fr'.set q ⟨x, p, r, q⟩) → GroI a cap40 S (sz'.set q N) (lf'.set q (-1)) (fr'.set q ⟨x, p, r, q⟩) ∧ (∀ l ∈ a.leaves, szOf (sz'.set q N) l.to = 1) ∧ Rnd a sz (sz'.set q N) (k + 1) true := fun h w' _ => by
              have hfall : szOf sz' q = 0 ∨ N < szOf sz' q := by rw [E3.out]; exact h
              have hi : GroI a cap40 S (sz'.set q N) (lf'.set q (-1)) (fr'.set q ⟨x, p, r, q⟩) := by
                have := hII.out.branch hF (by unfold cap40; omega) (List.mem_of_getElem? hX.out) hqS (by rw [E1.out]; exact h1) (by rw [E2.out]; exact h2') (by rw [E1.out, E2.out, HN.out]; exact hfall)
                rwa [E1.out, E2.out, HN.out] at this
              exact ⟨hi, lv_stay hH.out (fun l hl => by obtain ⟨_, _, rfl, _⟩ := hF.lv l hl; simp) (by have := HN2.out; omega) hfall,
                hRR.out.hit (szSum_set _ _ (by rw [hII.out.len]; exact hqS) (szM_falls hII.out HN2.out hN1 hfall))⟩
            have HDO := hide hdo
            clear hdo
            by_cases h30 : n3 = 0
            · have hz3 : ((n3 : Int) == 0) = true := by simp; omega
              go_wp2_with fail
              refine grow_note (hHG2.out.keep0 ((Kept.refl _ _).drew)) hHB2.out hqS hn33.out hyy.out hzz.out (by repeat (first | exact hN | refine Reg.NoQ.then ?_ | refine Reg.NoQ.inBlock ?_)) ?_
              iterate 17 (intro _)
              intro w5 hG5
              obtain ⟨g1, g2, g3'⟩ := HDO.out (.inl h30) w5 hG5
              have hs1 := hide hG5
              have hs2 := hide g1
              have hs3 := hide g2
              have hs4 := hide g3'
              clear hG5 g1 g2 g3'
              go_wp2_with fail
              exact ⟨⟨k + 1, true, _, _, _, by go_num, rfl, by omega, hs1.out, hs2.out, hs3.out, hs4.out⟩, by simp [intOf]; omega⟩
            · have hz3 : ((n3 : Int) == 0) = false := by simp; omega
              by_cases hlt3 : N < n3
              · have hz4 : ((N : Int) < (n3 : Int)) := by omega
                have h3h := hide hlt3
                clear hlt3
                go_wp2_with fail
                refine grow_note (hHG2.out.keep0 ((Kept.refl _ _).drew)) hHB2.out hqS hn33.out hyy.out hzz.out (by repeat (first | exact hN | refine Reg.NoQ.then ?_ | refine Reg.NoQ.inBlock ?_)) ?_
                iterate 17 (intro _)
                intro w5 hG5
                obtain ⟨g1, g2, g3'⟩ := HDO.out (.inr h3h.out) w5 hG5
                have hs1 := hide hG5
                have hs2 := hide g1
                have hs3 := hide g2
                have hs4 := hide g3'
                clear hG5 g1 g2 g3'
                go_wp2_with fail
                exact ⟨⟨k + 1, true, _, _, _, by go_num, rfl, by omega, hs1.out, hs2.out, hs3.out, hs4.out⟩, by simp [intOf]; omega⟩
              · have hz4 : ¬ ((N : Int) < (n3 : Int)) := by omega
                have h3h := hide hlt3
                clear hlt3
                go_wp2_with fail
                exact ⟨⟨k + 1, f, sz', lf', fr', by go_num, rfl, by omega, hHG2.out.keep0 ((Kept.refl _ _).drew), hII.out, hH, hRR.out.skip hX.out (HST.out (by have := h3h.out; omega) h30)⟩, by simp [intOf]; omega⟩
    · have hI2 := hI'
      have hR2 := hide hR
      have e : k = a.branches.length := by omega
      go_wp2_with fail
      subst e
      exact hQ _ _ _ _ _ _ _ _ _ _ _ _ _ _ _ _ _ _ _ _ _ _ _ _ _ _ _ _ _ _ _ _ _ _ _ _ _ _ _ _ _ _ _ _ _ _ _ _ _ _ _ _ _ _ _ _ _ _ _ _ _ _ _ _ _ _ _ _ _ _ _ _ wr f sz' lf' fr' hG' hI2 hH.out hR2.out
end Go.Proofs.Ytnimlcbgeiajiaa

namespace Go.Proofs.Ytnimlcbgeiajiaa
open Go.RowKit

set_option maxHeartbeats 8000000 in
set_option maxRecDepth 100000 in
theorem grow_rounds {a : TA} {L S c1 c2 c3 gb : Nat} (hF : a.Fits L S) {w0 w : World} {g3 gs gl gf : Nat} {A1 A2 A3 : Option Addr} (h2 : Sl w0 w0.heap.size 4 encBr A3 a.branches)
    (hB : Blk w0 gb 26 #[.int .i64 a.letters, .int .i64 a.states, .slice A1 a.accept.length c1, .slice A2 a.leaves.length c2, .slice A3 a.branches.length c3]) {sz : List Nat} {lf : List Int} {fr : List Branch}
    (hG : GroM w0 w g3 gs gl gf S sz lf fr) (hI : GroI a cap40 S sz lf fr) (hV : ∀ l ∈ a.leaves, szOf sz l.to = 1)
    {u0 u2 u4 u5 u7 u8 u9 u10 u11 u12 u13 u14 u15 u16 u17 u18 u19 u20 u21 u22 u23 u24 u25 u26 u27 u28 u29 u30 u31 u32 u33 u34 u35 u36 u37 u38 u39 u40 u41 u42 u43 u44 u45 u46 u47 u48 u49 u50 u51 u52 u53 u54 u55 u56 u57 u58 u59 u60 u61 u62 u63 u64 u65 u66 u67 u68 u69 u70 u71 u72 u73 u74 u75 u76 u77 u78 u79 u80 u81 u82 u83 u84 u85 u86 u87 u88 u89 u90 u91 u92 u93 u94 u95 u96 u97 u98 u99 u100 u101 u102 u103 u104 u105 u106 u107 u108 u109 u110 u111 u112 u113 u114 : Value}
    {Q : Exit → Act → World → Prop} (hN : Reg.NoQ Q)
    (hQ : ∀ (x8 x9 x40 x41 x42 x43 x44 x45 x46 x47 x48 x49 x50 x51 x52 x53 x54 x55 x56 x57 x58 x59 x60 x61 x62 x63 x64 x65 x66 x67 x68 x69 x70 x71 x72 x73 x74 x75 x76 x77 x78 x79 x80 x81 x82 x83 x84 x85 x86 x87 x88 x89 x90 x91 x92 x93 x94 x95 x96 x97 x98 x99 x100 x101 x102 x103 x104 x105 x106 x107 x108 x109 x110 x111 x112 x113 : Value) (w' : World) (sz' : List Nat) (lf' : List Int) (fr' : List Branch), GroM w0 w' g3 gs gl gf S sz' lf' fr' → GroI a cap40 S sz' lf' fr' → SzFix a cap40 S sz' →
      Q (.exit 2) ⟨List.toArray (u0 :: (.pointer (some ⟨gb, 0, none⟩)) :: u2 :: (.pointer (some ⟨g3, 0, none⟩)) :: u4 :: u5 :: (.bool false) :: u7 :: x8 :: x9 :: u10 :: u11 :: u12 :: u13 :: u14 :: u15 :: u16 :: u17 :: u18 :: u19 :: u20 :: u21 :: u22 :: u23 :: u24 :: u25 :: u26 :: u27 :: u28 :: 
      u29 :: u30 :: u31 :: u32 :: u33 :: u34 :: u35 :: u36 :: u37 :: u38 :: u39 :: x40 :: x41 :: x42 :: x43 :: x44 :: x45 :: x46 :: x47 :: x48 :: x49 :: x50 :: x51 :: x52 :: x53 :: x54 :: x55 :: x56 :: x57 :: x58 :: x59 :: x60 :: x61 :: x62 :: x63 :: x64 :: x65 :: 
      x66 :: x67 :: x68 :: x69 :: x70 :: x71 :: x72 :: x73 :: x74 :: x75 :: x76 :: x77 :: x78 :: x79 :: x80 :: x81 :: x82 :: x83 :: x84 :: x85 :: x86 :: x87 :: x88 :: x89 :: x90 :: x91 :: x92 :: x93 :: x94 :: x95 :: x96 :: x97 :: x98 :: x99 :: x100 :: x101 :: x102 :: 
      x103 :: x104 :: x105 :: x106 :: x107 :: x108 :: x109 :: x110 :: x111 :: x112 :: x113 :: u114 :: []), []⟩ w') :
    (Code.loop (loopBody Try.f57 1)).wp Try.prog Q ⟨List.toArray (u0 :: (.pointer (some ⟨gb, 0, none⟩)) :: u2 :: (.pointer (some ⟨g3, 0, none⟩)) :: u4 :: u5 :: (.bool true) :: u7 :: u8 :: u9 :: u10 :: u11 :: u12 :: u13 :: u14 :: u15 :: u16 :: u17 :: u18 :: u19 :: u20 :: u21 :: u22 :: u23 :: u24 :: u25 :: u26 :: u27 :: u28 :: 
      u29 :: u30 :: u31 :: u32 :: u33 :: u34 :: u35 :: u36 :: u37 :: u38 :: u39 :: u40 :: u41 :: u42 :: u43 :: u44 :: u45 :: u46 :: u47 :: u48 :: u49 :: u50 :: u51 :: u52 :: u53 :: u54 :: u55 :: u56 :: u57 :: u58 :: u59 :: u60 :: u61 :: u62 :: u63 :: u64 :: u65 :: 
      u66 :: u67 :: u68 :: u69 :: u70 :: u71 :: u72 :: u73 :: u74 :: u75 :: u76 :: u77 :: u78 :: u79 :: u80 :: u81 :: u82 :: u83 :: u84 :: u85 :: u86 :: u87 :: u88 :: u89 :: u90 :: u91 :: u92 :: u93 :: u94 :: u95 :: u96 :: u97 :: u98 :: u99 :: u100 :: u101 :: u102 :: 
      u103 :: u104 :: u105 :: u106 :: u107 :: u108 :: u109 :: u110 :: u111 :: u112 :: u113 :: u114 :: []), []⟩ w := by
  conv => arg 2; arg 1; whnf
  have hn := h2.1
  go_loopg [6] (szSum cap40 sz + 1) (fun m ff wr => ∃ (f : Bool) (sz' : List Nat) (lf' : List Int) (fr' : List Branch), ff = .bool f ∧ szSum cap40 sz' + (if f then 1 else 0) ≤ m ∧ GroM w0 wr g3 gs gl gf S sz' lf' fr' ∧ GroI a cap40 S sz' lf' fr' ∧ Hid (∀ l ∈ a.leaves, szOf sz' l.to = 1) ∧ Hid (f = false → ∀ b ∈ a.branches, Stable cap40 sz' b))
  case atStart => exact ⟨true, sz, lf, fr, rfl, by simp, hG, hI, hV, fun h => by cases h⟩
  case round =>
    obtain ⟨f, sz', lf', fr', rfl, hm, hG', hI', hH, hE⟩ := hrel
    have hHm := hide hm
    clear hm
    cases f with
    | true =>
      have hBr := hB.kept (Kept.of_below hG'.below (fun _ => False)) id
      have hcb := hBr.cell
      have hHG := hide hG'
      have hHI := hide hI'
      clear hG' hI'
      go_wp2_with fail
      refine grow_round hF h2 hHG.out hHI.out hH.out (by repeat (first | exact hN | refine Reg.NoQ.then ?_ | refine Reg.NoQ.inBlock ?_)) ?_
      iterate 72 (intro _)
      intro w5 f5 sz5 lf5 fr5 hG5 hI5 hV5 hR5
      have hs1 := hide hG5
      have hs2 := hide hI5
      have hs3 := hide hV5
      have hs4 := hide hR5
      clear hG5 hI5 hV5 hR5 hcb
      go_wp2_with fail
      go_roundg (szSum cap40 sz5 + (if f5 = true then 1 else 0))
      case measure =>
        have h1 := hHm.out
        cases f5 with
        | true =>
          have := hs4.out.yes rfl
          simp at h1 ⊢
          omega
        | false =>
          have := (hs4.out.no rfl).1
          subst this
          simp at h1 ⊢
          omega
      case rel =>
        refine ⟨f5, sz5, lf5, fr5, rfl, Nat.le_refl _, hs1.out, hs2.out, hs3.out, fun e b hb => ?_⟩
        obtain ⟨h1, h3⟩ := hs4.out.no e
        subst h1
        rw [List.take_length] at h3
        exact h3 b hb
    | false =>
      have hHG := hide hG'
      have hHI := hide hI'
      clear hG' hI'
      have hfix : SzFix a cap40 S sz' := ⟨hHI.out.len, hHI.out.sound, hH.out, hE.out rfl⟩
      have hFX := hide hfix
      clear hfix
      go_wp2_with fail
      exact hQ _ _ _ _ _ _ _ _ _ _ _ _ _ _ _ _ _ _ _ _ _ _ _ _ _ _ _ _ _ _ _ _ _ _ _ _ _ _ _ _ _ _ _ _ _ _ _ _ _ _ _ _ _ _ _ _ _ _ _ _ _ _ _ _ _ _ _ _ _ _ _ _ _ _ _ _ wr sz' lf' fr' hHG.out hHI.out hFX.out

theorem rowZ_eq (S : Nat) : rowZ S = ((List.replicate S 0).map encN).toArray := by
  unfold rowZ
  rw [madeCells_one]
  apply Array.ext'
  simp [encN]
theorem rowZ_eqI (S : Nat) : rowZ S = ((List.replicate S (0 : Int)).map (Value.int .i64)).toArray := by
  unfold rowZ
  rw [madeCells_one]
  apply Array.ext'
  simp
theorem frZ_eq (S : Nat) : frZ S = ((List.replicate S (⟨0, 0, 0, 0⟩ : Branch)).flatMap brCells).toArray := by
  unfold frZ
  apply Array.ext_getElem?
  intro i
  by_cases hi : i < S * 4
  · have e : i = i / 4 * 4 + i % 4 := by omega
    have h1 := flat4 (List.replicate S (⟨0, 0, 0, 0⟩ : Branch)) (i / 4) (i % 4) ⟨0, 0, 0, 0⟩ (by rw [List.getElem?_replicate, if_pos (by omega)]) (by omega)
    rw [← e] at h1
    refine Eq.trans ?_ ((List.getElem?_toArray ..).trans h1).symm
    have h2 : encBr ⟨0, 0, 0, 0⟩ (i % 4) = .int .i64 0 := by
      have : i % 4 = 0 ∨ i % 4 = 1 ∨ i % 4 = 2 ∨ i % 4 = 3 := by omega
      rcases this with h | h | h | h <;> rw [h] <;> rfl
    rw [h2, Array.getElem?_eq_getElem (by simpa [madeCells] using hi)]
    have : i % 4 = 0 ∨ i % 4 = 1 ∨ i % 4 = 2 ∨ i % 4 = 3 := by omega
    rcases this with h | h | h | h <;> simp [madeCells, h]
  · rw [Array.getElem?_eq_none (by simp [madeCells]; omega), Array.getElem?_eq_none]
    have : ∀ n : Nat, ((List.replicate n (⟨0, 0, 0, 0⟩ : Branch)).flatMap brCells).length = n * 4 := fun n => by simp [List.length_flatMap, brCells, List.map_replicate, List.sum_replicate_nat]
    simp only [List.size_toArray, this]
    omega

set_option maxHeartbeats 8000000 in
set_option maxRecDepth 100000 in
theorem grow_any {v : Value} {a : TA} {w : World} {L S : Nat} (h : IsTA w w.heap.size v a) (hF : a.Fits L S) :
    Calls Try.prog 57 #[v] w (Ret fun r w' => Below w.heap.size w w' ∧ ∃ w0 g3 gs gl gf sz lf fr, r = .agg #[.slice (some ⟨gs, 0, none⟩) S S, .slice (some ⟨gl, 0, none⟩) S S, .slice (some ⟨gf, 0, none⟩) S S] ∧ w.heap.size ≤ w0.heap.size ∧
      GroM w0 w' g3 gs gl gf S sz lf fr ∧ GroI a cap40 S sz lf fr ∧ SzFix a cap40 S sz) := by
  obtain ⟨A1, c1, A2, c2, A3, c3, rfl, h1, h2, h3⟩ := h
  obtain ⟨w1, hw1, hb1, hB1, hk1⟩ := box_blk w #[.int .i64 a.letters, .int .i64 a.states, .slice A1 a.accept.length c1, .slice A2 a.leaves.length c2, .slice A3 a.branches.length c3] 26
  obtain ⟨w2, hw2, hb2, hB2, hk2⟩ := box_blk w1 #[.slice none 0 0, .slice none 0 0, .slice none 0 0] 75
  have hsz1 := hb1.size
  have hsz2 := hb2.size
  have hb02 := hb1.trans (hb2.mono hsz1)
  have hB12 := hB1.kept hk2 id
  have hcb := hB12.cell
  have hS := hF.hS
  have hS64 := hF.S64
  have hc1 : w2.cell? ⟨w.heap.size, 1, none⟩ = some (.int .i64 (S : Int)) := by rw [hcb, ← hS]; rfl
  have h2s := (h2.below hb02).mono (B' := w2.heap.size) (by omega)
  have h3s := (h3.below hb02).mono (B' := w2.heap.size) (by omega)
  have hh2 := hide h2s
  have hh3 := hide h3s
  have hFF := hide hF
  clear h1 h2 h3 h2s h3s hS hF
  go_enter Try.func57, Try.ntmps57
  go_wp2_with fail
  refine grow_rows hS64 hc1 (by repeat (first | exact Reg.NoQ.body (fun _ _ h => h) (fun _ h => h) | refine Reg.NoQ.then ?_ | refine Reg.NoQ.inBlock ?_)) ?_
  iterate 10 (intro _)
  intro w3 g3 gs gl gf hA
  have hG0 : GroM w2 w3 g3 gs gl gf S (List.replicate S 0) (List.replicate S 0) (List.replicate S ⟨0, 0, 0, 0⟩) := by
    obtain ⟨hbel, hblk, hnd⟩ := hA
    have b3 := hblk _ (List.mem_cons_self)
    have bs := hblk _ (List.mem_cons_of_mem _ List.mem_cons_self)
    have bl := hblk _ (List.mem_cons_of_mem _ (List.mem_cons_of_mem _ List.mem_cons_self))
    have bf := hblk _ (List.mem_cons_of_mem _ (List.mem_cons_of_mem _ (List.mem_cons_of_mem _ List.mem_cons_self)))
    rw [rowZ_eqI] at bl
    rw [rowZ_eq] at bs
    rw [frZ_eq] at bf
    simp only [List.map_cons, List.map_nil, List.nodup_cons, List.mem_cons, List.not_mem_nil, not_or, or_false, List.nodup_nil, not_false_eq_true, and_true] at hnd
    exact ⟨hbel, b3.1, bs.1, bl.1, bf.1, b3.2, bs.2, bl.2, bf.2, hnd.2.1.1⟩
  have hI0 : GroI a cap40 S (List.replicate S 0) (List.replicate S 0) (List.replicate S ⟨0, 0, 0, 0⟩) := GroI.zero a cap40 S _ _ (by simp) (by simp)
  have hcb3 := (hB12.kept (Kept.of_below hG0.below (fun _ => False)) id).cell
  have hGG0 := hide hG0
  have hII0 := hide hI0
  have hn2 := hh2.out.1
  have hn3 := hh3.out.1
  clear hG0 hI0 hA hcb hc1
  go_wp2_with fail
  refine grow_leaves hFF.out (by unfold cap40; omega) hh2.out hGG0.out hII0.out (by repeat (first | exact Reg.NoQ.body (fun _ _ h => h) (fun _ h => h) | refine Reg.NoQ.then ?_ | refine Reg.NoQ.inBlock ?_)) ?_
  iterate 18 (intro _)
  intro w4 sz4 lf4 hG4 hI4 hV4
  have hGG4 := hide hG4
  have hII4 := hide hI4
  have hVV4 := hide hV4
  clear hG4 hI4 hV4 hcb3
  go_wp2_with fail
  refine grow_rounds hFF.out hh3.out hB12 hGG4.out hII4.out hVV4.out (by repeat (first | exact Reg.NoQ.body (fun _ _ h => h) (fun _ h => h) | refine Reg.NoQ.then ?_ | refine Reg.NoQ.inBlock ?_)) ?_
  iterate 76 (intro _)
  intro w5 sz5 lf5 fr5 hG5 hI5 hX5
  have hc3 := hG5.b3.cell
  have hB25 := hB2.kept (Kept.of_below hG5.below (fun _ => False)) id
  have hc2 := hB25.cell
  have hf2 := hB25.frozen
  have hl2 := hB25.lt
  have hGG5 := hide hG5
  have hII5 := hide hI5
  have hXX5 := hide hX5
  clear hG5 hI5 hX5
  go_wp2_with fail
  have hkF : Kept w5 (set3 w5 w1.heap.size (.slice (some ⟨gs, 0, none⟩) S S) (.slice (some ⟨gl, 0, none⟩) S S) (.slice (some ⟨gf, 0, none⟩) S S)) (fun k => k = w1.heap.size) :=
    (((Kept.refl w5 (fun k => k = w1.heap.size)).setCell (p := ⟨w1.heap.size, 0, none⟩) (fun _ => rfl) _).setCell (p := ⟨w1.heap.size, 1, none⟩) (fun _ => rfl) _).setCell (p := ⟨w1.heap.size, 2, none⟩) (fun _ => rfl) _
  have hgF := ((hB25.set_ 0 (.slice (some ⟨gs, 0, none⟩) S S)).set_ 1 (.slice (some ⟨gl, 0, none⟩) S S)).set_ 2 (.slice (some ⟨gf, 0, none⟩) S S)
  change bodyPost _ _ _ _ _ (set3 w5 w1.heap.size (.slice (some ⟨gs, 0, none⟩) S S) (.slice (some ⟨gl, 0, none⟩) S S) (.slice (some ⟨gf, 0, none⟩) S S))
  change Blk (set3 w5 w1.heap.size (.slice (some ⟨gs, 0, none⟩) S S) (.slice (some ⟨gl, 0, none⟩) S S) (.slice (some ⟨gf, 0, none⟩) S S)) _ _ _ at hgF
  generalize set3 w5 w1.heap.size (.slice (some ⟨gs, 0, none⟩) S S) (.slice (some ⟨gl, 0, none⟩) S S) (.slice (some ⟨gf, 0, none⟩) S S) = wF at *
  have hcF := hgF.cell
  have h5 := hGG5.out
  have hw12 : w1.heap.size < w2.heap.size := hB2.lt
  have hbel1 : Below w1.heap.size w1 wF := (hb2.trans (h5.below.mono hsz2)).trans (hkF.below (by have := h5.below.size; omega) (fun b hb e => by omega))
  have hGF : GroM w1 wF g3 gs gl gf S sz5 lf5 fr5 := by
    have a1 := h5.h3
    have a2 := h5.hs
    have a3 := h5.hl
    have a4 := h5.hf
    exact ⟨hbel1, h5.b3.kept hkF (by omega), h5.bs.kept hkF (by omega), h5.bl.kept hkF (by omega), h5.bf.kept hkF (by omega), by omega, by omega, by omega, by omega, h5.ne⟩
  exact bodyPost_ret (v := .agg #[.slice (some ⟨gs, 0, none⟩) S S, .slice (some ⟨gl, 0, none⟩) S S, .slice (some ⟨gf, 0, none⟩) S S]) (by simp [results, Try.results57, go_sem, hcF]) rfl ⟨hb1.trans (hbel1.mono hsz1), w1, g3, gs, gl, gf, sz5, lf5, fr5, rfl, hsz1, hGF, hII5.out, hXX5.out⟩
end Go.Proofs.Ytnimlcbgeiajiaa

namespace Go.Proofs.Ytnimlcbgeiajiaa
open Go.RowKit

theorem run_build1 (w : World) (u : Int) : (Instr.buildSlice 22 1 #[(0, .int .i64 u)]).run Try.prog w = .ok (.slice (some ⟨w.heap.size, 0, none⟩) 1 1) (w.alloc (.cells #[.int .i64 u] 3)) := by
  simp [Instr.buildSlice, go_sem]
section
variable {ops : Array Oper} {rest : List Oper} {o : Oper} {a : Act} {Q : Exit → Act → World → Prop}
theorem wpList_build1 {w : World} (hgd : o.guard = none) (x : Operand) (u : Int) (ho : o.op = .buildSlice 22 1 #[(0, x)]) (hx : a.eval x = .int .i64 u)
    (h : ∀ g w1, Blk w1 g 3 #[.int .i64 u] → Below w.heap.size w w1 → w.heap.size ≤ g → wpList Try.prog ops Q rest (a.put o.dst (.slice (some ⟨g, 0, none⟩) 1 1)) w1) : wpList Try.prog ops Q (o :: rest) a w := by
  refine wpList_plain hgd fun K hK => ?_
  have hr := run_build1 w u
  unfold Oper.wp execOp
  simp only [ho, List.map_toArray, List.map_cons, List.map_nil, hx, Sem.run_bind, Sem.run_pure, Result.andThen_ok, hr]
  exact hK _ _ (h _ _ (Blk.new _ _ _) ((Below.refl _ _).alloc (Nat.le_refl _) _) (Nat.le_refl _))
end

/-- Two rows of their own that grow from v1 and v2. -/
structure WrS (base : Nat) (w0 w : World) (v1 v2 u1 : Value) (n1 : Nat) (xs1 : List Value) (u2 : Value) (n2 : Nat) (xs2 : List Value) : Prop where
  r1 : w.ownsRow base 3 1 u1 n1 xs1
  r2 : w.ownsRow base 3 1 u2 n2 xs2
  ap : ∀ k, u1.ownBlock = some k → u2.ownBlock ≠ some k
  kept : Kept w0 w (fun k => v1.ownBlock = some k ∨ v2.ownBlock = some k)
  m1 : Moved w0 v1 u1
  m2 : Moved w0 v2 u2
  base_ : base ≤ w0.heap.size
section
variable {base : Nat} {w0 w w' : World} {v1 v2 u1 u2 t1 t2 : Value} {n1 n2 m1 m2 : Nat} {xs1 xs2 ys1 ys2 : List Value}
theorem WrS.start (h1 : w.ownsRow base 3 1 v1 n1 xs1) (h2 : w.ownsRow base 3 1 v2 n2 xs2) (ha : ∀ k, v1.ownBlock = some k → v2.ownBlock ≠ some k) (hb : base ≤ w.heap.size) : WrS base w w v1 v2 v1 n1 xs1 v2 n2 xs2 :=
  ⟨h1, h2, ha, Kept.refl _ _, Moved.refl _ _, Moved.refl _ _, hb⟩
theorem WrS.below (h : WrS base w0 w v1 v2 u1 n1 xs1 u2 n2 xs2) (hb : Below w.heap.size w w') : WrS base w0 w' v1 v2 u1 n1 xs1 u2 n2 xs2 :=
  have hk := Kept.of_below hb (fun _ => False)
  ⟨hk.ownsRow h.r1 (fun _ _ => id), hk.ownsRow h.r2 (fun _ _ => id), h.ap, h.kept.trans hk (fun _ _ x => x.elim), h.m1, h.m2, h.base_⟩
theorem moved_old {w : World} {v u : Value} (h : Moved w v u) {k : Nat} (hk : k < w.heap.size) (hu : u.ownBlock = some k) : v.ownBlock = some k := by
  rcases h with h | ⟨g, h, hg⟩
  · rw [← h]; exact hu
  · rw [h] at hu; injection hu with hu; omega
theorem WrS.app1 (h : WrS base w0 w v1 v2 u1 n1 xs1 u2 n2 xs2) (ho : w'.ownsRow base 3 1 t1 m1 ys1) (hk : Kept w w' (fun k => u1.ownBlock = some k)) (hm : Moved w u1 t1) : WrS base w0 w' v1 v2 t1 m1 ys1 u2 n2 xs2 := by
  refine ⟨ho, hk.ownsRow h.r2 (fun g hg e => h.ap g e hg), fun k hk1 hk2 => ?_, h.kept.trans hk (fun b hb e => .inl (moved_old h.m1 hb e)), h.m1.trans h.kept.size hm, h.m2, h.base_⟩
  have := own_lt h.r2 hk2
  exact h.ap k (moved_old hm this hk1) hk2
theorem WrS.app2 (h : WrS base w0 w v1 v2 u1 n1 xs1 u2 n2 xs2) (ho : w'.ownsRow base 3 1 t2 m2 ys2) (hk : Kept w w' (fun k => u2.ownBlock = some k)) (hm : Moved w u2 t2) : WrS base w0 w' v1 v2 u1 n1 xs1 t2 m2 ys2 := by
  refine ⟨hk.ownsRow h.r1 (fun g hg e => h.ap g hg e), ho, fun k hk1 hk2 => ?_, h.kept.trans hk (fun b hb e => .inr (moved_old h.m2 hb e)), h.m1, h.m2.trans h.kept.size hm, h.base_⟩
  have := own_lt h.r1 hk1
  exact h.ap k hk1 (moved_old hm this hk2)
theorem WrS.trans (h : WrS base w0 w v1 v2 u1 n1 xs1 u2 n2 xs2) (k : WrS base w w' u1 u2 t1 m1 ys1 t2 m2 ys2) : WrS base w0 w' v1 v2 t1 m1 ys1 t2 m2 ys2 :=
  ⟨k.r1, k.r2, k.ap, h.kept.trans k.kept (fun b hb e => by
    rcases e with e | e
    · exact .inl (moved_old h.m1 hb e)
    · exact .inr (moved_old h.m2 hb e)), h.m1.trans h.kept.size k.m1, h.m2.trans h.kept.size k.m2, h.base_⟩
theorem WrS.drew (h : WrS base w0 w v1 v2 u1 n1 xs1 u2 n2 xs2) : WrS base w0 w.drew v1 v2 u1 n1 xs1 u2 n2 xs2 := h.below (drew_below w)
end
theorem news1 {w : World} {g : Nat} {u : Value} (h : Blk w g 3 #[u]) : ∀ (j : Nat) (x : Value), [u][j]? = some x → w.cell? ((⟨g, 0, none⟩ : Addr).add j) = some x := by
  intro j x hj
  rw [Addr.add_mid, Nat.zero_add, h.cell]
  simpa using hj
theorem row_kept {w w' : World} {base n : Nat} {u : Value} {xs : List Value} (h : w.ownsRow base 3 1 u n xs) {g : Nat} {t : TypeId} {cs : Array Value} (hg : Blk w g t cs) (hb : g < base ∨ t ≠ 3 ) (hk : Kept w w' (fun k => u.ownBlock = some k)) : Blk w' g t cs :=
  hg.kept hk fun e => by
    rcases hb with hb | hb
    · have := own_base h e; omega
    · exact own_blk_ne h hg (fun e => hb e.symm) e

set_option maxHeartbeats 8000000 in
set_option maxRecDepth 100000 in
theorem wr_leaf {base n1 n2 gb gs gl gf S q x : Nat} {w : World} {v1 v2 : Value} {xs1 xs2 : List Value} {lf : List Int} (hW : WrS base w w v1 v2 v1 n1 xs1 v2 n2 xs2) (hn1 : n1 ≤ 900000) (hn2 : n2 ≤ 900000)
    (hB : Blk w gb 75 #[.slice (some ⟨gs, 0, none⟩) S S, .slice (some ⟨gl, 0, none⟩) S S, .slice (some ⟨gf, 0, none⟩) S S]) (hL : Blk w gl 3 (lf.map (Value.int .i64)).toArray) (hgl : gl < base) (hq : lf[q]? = some (x : Int)) (hqS : q < S)
    {u0 u5 u6 u7 u8 u9 u10 u11 u12 u13 u14 u15 u16 u17 u18 u19 u20 u21 u22 u23 u24 u25 u26 u27 u28 u29 u30 u31 u32 u33 u34 u35 u36 u37 u38 u39 u40 u41 u42 u43 u44 u45 u46 u47 u48 u49 u50 u51 u52 u53 u54 u55 u56 u57 : Value}
    {Q : Exit → Act → World → Prop} (hN : Reg.NoQ Q)
    (hQ : ∀ (x17 x18 x19 x20 x21 x22 x23 x24 x25 x26 x27 : Value) (w' : World) (s1 s2 : Value), WrS base w w' v1 v2 s1 (n1 + 1) (xs1 ++ [.int .i64 0]) s2 (n2 + 1) (xs2 ++ [.int .i64 (x : Int)]) → Q .normal ⟨List.toArray (u0 :: (.int .i64 (q : Int)) :: v1 :: v2 :: (.pointer (some ⟨gb, 0, none⟩)) :: u5 :: u6 :: u7 :: s1 :: s2 :: u10 :: u11 :: u12 :: u13 :: u14 :: u15 :: u16 :: x17 :: x18 :: x19 :: x20 :: x21 :: x22 :: x23 :: x24 :: x25 :: x26 :: x27 :: u28 :: u29 :: u30 :: u31 :: 
      u32 :: u33 :: u34 :: u35 :: u36 :: u37 :: u38 :: u39 :: u40 :: u41 :: u42 :: u43 :: u44 :: u45 :: u46 :: u47 :: u48 :: u49 :: u50 :: u51 :: u52 :: u53 :: u54 :: u55 :: u56 :: u57 :: []), []⟩ w') :
    (regionAt Try.f58 2).wp Try.prog Q ⟨List.toArray (u0 :: (.int .i64 (q : Int)) :: v1 :: v2 :: (.pointer (some ⟨gb, 0, none⟩)) :: u5 :: u6 :: u7 :: u8 :: u9 :: u10 :: u11 :: u12 :: u13 :: u14 :: u15 :: u16 :: u17 :: u18 :: u19 :: u20 :: u21 :: u22 :: u23 :: u24 :: u25 :: u26 :: u27 :: u28 :: u29 :: u30 :: u31 :: 
      u32 :: u33 :: u34 :: u35 :: u36 :: u37 :: u38 :: u39 :: u40 :: u41 :: u42 :: u43 :: u44 :: u45 :: u46 :: u47 :: u48 :: u49 :: u50 :: u51 :: u52 :: u53 :: u54 :: u55 :: u56 :: u57 :: []), []⟩ w := by
  conv => arg 2; whnf
  refine Reg.region_spl [0, 0, 3, 0, 0, 16, 0, 112, 240, 496, 1023, 2047, 4095] (.node 1 9 (.node 2 9 (.leaf [0, 3, 4, 5, 6, 7, 8, 1, 2, 9, 10, 11, 12]) (.leaf [0, 3, 4, 5, 6, 7, 8, 1, 9, 2, 10, 11, 12])) (.leaf [0, 3, 4, 5, 6, 7, 8, 9, 1, 2, 10, 11, 12])) (by kernel_rfl) hN ?_
  dsimp only [Reg.Spl.goal]
  replace hW := hW.drew
  replace hB : Blk w.drew gb 75 #[.slice (some ⟨gs, 0, none⟩) S S, .slice (some ⟨gl, 0, none⟩) S S, .slice (some ⟨gf, 0, none⟩) S S] := hB
  replace hL : Blk w.drew gl 3 (lf.map (Value.int .i64)).toArray := hL
  obtain ⟨wd, hwd⟩ : ∃ wd, w.drew = wd := ⟨_, rfl⟩
  rw [hwd] at hW hB hL ⊢
  clear hwd
  have hcb := hB.cell
  have hcl : wd.cell? ⟨gl, q, none⟩ = some (.int .i64 (x : Int)) := by rw [hL.cell]; simp [hq]
  have hclq : (lf.map (Value.int .i64)).toArray[q]? = some (.int .i64 (x : Int)) := by simp [hq]
  have hqq := hide hq
  have hCQ := hide hclq
  clear hq hclq
  refine ⟨⟨?_, ?_⟩, ?_⟩
  · refine Reg.rest_walkE [0, 3, 4, 5, 6, 7, 8] _ rfl rfl (by kernel_rfl) ?_
    intro Qf hQf
    go_wp2_with fail
    first | refine hQf _ _ ?_ | (rw [List.filterMap_nil]; go_wp2_with fail)
    refine Reg.rest_walkE [1] _ rfl rfl (by kernel_rfl) ?_
    intro Qf hQf
    refine wpList_build1 rfl _ 0 rfl rfl ?_
    intro e1 y nb1 hb hg
    refine hQf _ _ ?_
    clear hQf
    replace hW := hW.below hb
    replace hB := hB.below hb
    replace hL := hL.below hb
    refine Reg.rest_act' 2 _ [5, 8] rfl (by kernel_rfl) ?_
    intro Qf hQf
    simp only [List.getElem_toArray, List.getElem_cons_succ, List.getElem_cons_zero]
    refine wpList_app row22 rfl _ _ rfl base v1 n1 xs1 rfl hW.r1 ⟨e1, 0, none⟩ 1 1 [.int .i64 0] rfl rfl (news1 nb1) (by simp [Value.oneCell']) (by omega) (by omega) (Nat.le_trans hW.base_ hW.kept.size) ?_
    intro g1 cap1 y ho hk hm hl
    have hB' := row_kept hW.r1 hB (.inr (by decide)) hk
    have hL' := row_kept hW.r1 hL (.inl hgl) hk
    refine hQf _ _ ⟨?_, ?_⟩
    · intro zz hz qo hqo
      simp only [List.mem_cons, List.not_mem_nil, or_false] at hz
      rcases hz with rfl | rfl
      · injection hqo with hqo
        subst hqo
        exact Reg.same_load1 rfl rfl (hB.cell 1) (hB'.cell 1) Try.underlying22 rfl
      · injection hqo with hqo
        subst hqo
        exact Reg.same_load1 rfl rfl ((hL.cell q).trans hCQ.out) ((hL'.cell q).trans hCQ.out) Try.underlying3 rfl
    replace hW := hW.app1 ho hk hm
    replace hB := hB'
    replace hL := hL'
    clear hQf ho hk hm hB' hL'
    refine Reg.rest_walkE [9] _ rfl rfl (by kernel_rfl) ?_
    intro Qf hQf
    refine wpList_build1 rfl _ x rfl rfl ?_
    intro e2 y nb2 hb hg
    refine hQf _ _ ?_
    clear hQf
    have hne2 : ∀ k, _ = some k → k ≠ e2 := fun k hk => by have := own_lt hW.r1 hk; omega
    replace hW := hW.below hb
    replace hB := hB.below hb
    replace hL := hL.below hb
    refine Reg.rest_walkE [10] _ rfl rfl (by kernel_rfl) ?_
    intro Qf hQf
    refine wpList_app row22 rfl _ _ rfl base v2 n2 xs2 rfl hW.r2 ⟨e2, 0, none⟩ 1 1 [.int .i64 x] rfl rfl (news1 nb2) (by simp [Value.oneCell']) (by omega) (by omega) (Nat.le_trans hW.base_ hW.kept.size) ?_
    intro g2 cap2 y ho hk hm hl2
    refine hQf _ _ ?_
    replace hW := hW.app2 ho hk hm
    clear hQf
    refine Reg.rest_walkE [11, 12] _ rfl rfl (by kernel_rfl) ?_
    intro Qf hQf
    go_wp2_with fail
    first | refine hQf _ _ ?_ | skip
    refine Reg.rest_end ?_
    exact hQ _ _ _ _ _ _ _ _ _ _ _ _ _ _ hW
  · refine Reg.rest_walkE [0, 3, 4, 5, 6, 7, 8] _ rfl rfl (by kernel_rfl) ?_
    intro Qf hQf
    go_wp2_with fail
    first | refine hQf _ _ ?_ | (rw [List.filterMap_nil]; go_wp2_with fail)
    refine Reg.rest_walkE [1] _ rfl rfl (by kernel_rfl) ?_
    intro Qf hQf
    refine wpList_build1 rfl _ 0 rfl rfl ?_
    intro e1 y nb1 hb hg
    refine hQf _ _ ?_
    clear hQf
    replace hW := hW.below hb
    replace hB := hB.below hb
    replace hL := hL.below hb
    refine Reg.rest_walkE [9] _ rfl rfl (by kernel_rfl) ?_
    intro Qf hQf
    refine wpList_build1 rfl _ x rfl rfl ?_
    intro e2 y nb2 hb hg
    refine hQf _ _ ?_
    clear hQf
    have hne2 : ∀ k, _ = some k → k ≠ e2 := fun k hk => by have := own_lt hW.r1 hk; omega
    replace hW := hW.below hb
    replace hB := hB.below hb
    replace hL := hL.below hb
    replace nb1 := nb1.below hb
    refine Reg.rest_act' 2 _ [5, 8] rfl (by kernel_rfl) ?_
    intro Qf hQf
    simp only [List.getElem_toArray, List.getElem_cons_succ, List.getElem_cons_zero]
    refine wpList_app row22 rfl _ _ rfl base v1 n1 xs1 rfl hW.r1 ⟨e1, 0, none⟩ 1 1 [.int .i64 0] rfl rfl (news1 nb1) (by simp [Value.oneCell']) (by omega) (by omega) (Nat.le_trans hW.base_ hW.kept.size) ?_
    intro g1 cap1 y ho hk hm hl
    have hB' := row_kept hW.r1 hB (.inr (by decide)) hk
    have hL' := row_kept hW.r1 hL (.inl hgl) hk
    refine hQf _ _ ⟨?_, ?_⟩
    · intro zz hz qo hqo
      simp only [List.mem_cons, List.not_mem_nil, or_false] at hz
      rcases hz with rfl | rfl
      · injection hqo with hqo
        subst hqo
        exact Reg.same_load1 rfl rfl (hB.cell 1) (hB'.cell 1) Try.underlying22 rfl
      · injection hqo with hqo
        subst hqo
        exact Reg.same_load1 rfl rfl ((hL.cell q).trans hCQ.out) ((hL'.cell q).trans hCQ.out) Try.underlying3 rfl
    replace nb2 := Blk.kept nb2 hk fun e => hne2 _ e rfl
    replace hW := hW.app1 ho hk hm
    replace hB := hB'
    replace hL := hL'
    clear hQf ho hk hm hB' hL'
    refine Reg.rest_walkE [10] _ rfl rfl (by kernel_rfl) ?_
    intro Qf hQf
    refine wpList_app row22 rfl _ _ rfl base v2 n2 xs2 rfl hW.r2 ⟨e2, 0, none⟩ 1 1 [.int .i64 x] rfl rfl (news1 nb2) (by simp [Value.oneCell']) (by omega) (by omega) (Nat.le_trans hW.base_ hW.kept.size) ?_
    intro g2 cap2 y ho hk hm hl2
    refine hQf _ _ ?_
    replace hW := hW.app2 ho hk hm
    clear hQf
    refine Reg.rest_walkE [11, 12] _ rfl rfl (by kernel_rfl) ?_
    intro Qf hQf
    go_wp2_with fail
    first | refine hQf _ _ ?_ | skip
    refine Reg.rest_end ?_
    exact hQ _ _ _ _ _ _ _ _ _ _ _ _ _ _ hW
  · refine Reg.rest_walkE [0, 3, 4, 5, 6, 7, 8] _ rfl rfl (by kernel_rfl) ?_
    intro Qf hQf
    go_wp2_with fail
    first | refine hQf _ _ ?_ | (rw [List.filterMap_nil]; go_wp2_with fail)
    refine Reg.rest_walkE [9] _ rfl rfl (by kernel_rfl) ?_
    intro Qf hQf
    refine wpList_build1 rfl _ x rfl rfl ?_
    intro e2 y nb2 hb hg
    refine hQf _ _ ?_
    clear hQf
    have hne2 : ∀ k, _ = some k → k ≠ e2 := fun k hk => by have := own_lt hW.r1 hk; omega
    replace hW := hW.below hb
    replace hB := hB.below hb
    replace hL := hL.below hb
    refine Reg.rest_walkE [1] _ rfl rfl (by kernel_rfl) ?_
    intro Qf hQf
    refine wpList_build1 rfl _ 0 rfl rfl ?_
    intro e1 y nb1 hb hg
    refine hQf _ _ ?_
    clear hQf
    replace hW := hW.below hb
    replace hB := hB.below hb
    replace hL := hL.below hb
    replace nb2 := nb2.below hb
    refine Reg.rest_act' 2 _ [5, 8] rfl (by kernel_rfl) ?_
    intro Qf hQf
    simp only [List.getElem_toArray, List.getElem_cons_succ, List.getElem_cons_zero]
    refine wpList_app row22 rfl _ _ rfl base v1 n1 xs1 rfl hW.r1 ⟨e1, 0, none⟩ 1 1 [.int .i64 0] rfl rfl (news1 nb1) (by simp [Value.oneCell']) (by omega) (by omega) (Nat.le_trans hW.base_ hW.kept.size) ?_
    intro g1 cap1 y ho hk hm hl
    have hB' := row_kept hW.r1 hB (.inr (by decide)) hk
    have hL' := row_kept hW.r1 hL (.inl hgl) hk
    refine hQf _ _ ⟨?_, ?_⟩
    · intro zz hz qo hqo
      simp only [List.mem_cons, List.not_mem_nil, or_false] at hz
      rcases hz with rfl | rfl
      · injection hqo with hqo
        subst hqo
        exact Reg.same_load1 rfl rfl (hB.cell 1) (hB'.cell 1) Try.underlying22 rfl
      · injection hqo with hqo
        subst hqo
        exact Reg.same_load1 rfl rfl ((hL.cell q).trans hCQ.out) ((hL'.cell q).trans hCQ.out) Try.underlying3 rfl
    replace nb2 := Blk.kept nb2 hk fun e => hne2 _ e rfl
    replace hW := hW.app1 ho hk hm
    replace hB := hB'
    replace hL := hL'
    clear hQf ho hk hm hB' hL'
    refine Reg.rest_walkE [10] _ rfl rfl (by kernel_rfl) ?_
    intro Qf hQf
    refine wpList_app row22 rfl _ _ rfl base v2 n2 xs2 rfl hW.r2 ⟨e2, 0, none⟩ 1 1 [.int .i64 x] rfl rfl (news1 nb2) (by simp [Value.oneCell']) (by omega) (by omega) (Nat.le_trans hW.base_ hW.kept.size) ?_
    intro g2 cap2 y ho hk hm hl2
    refine hQf _ _ ?_
    replace hW := hW.app2 ho hk hm
    clear hQf
    refine Reg.rest_walkE [11, 12] _ rfl rfl (by kernel_rfl) ?_
    intro Qf hQf
    go_wp2_with fail
    first | refine hQf _ _ ?_ | skip
    refine Reg.rest_end ?_
    exact hQ _ _ _ _ _ _ _ _ _ _ _ _ _ _ hW

set_option maxHeartbeats 8000000 in
set_option maxRecDepth 100000 in
theorem wr_node {base n1 n2 gd : Nat} {x : Nat} {z1 z2 z3 : Value} {w : World} {v1 v2 : Value} {xs1 xs2 : List Value} (hW : WrS base w w v1 v2 v1 n1 xs1 v2 n2 xs2) (hn1 : n1 ≤ 900000) (hn2 : n2 ≤ 900000)
    (hB : Blk w gd 59 #[.int .i64 (x : Int), z1, z2, z3])
    {u0 u1 u4 u5 u6 u7 u8 u9 u11 u12 u13 u14 u15 u16 u17 u18 u19 u20 u21 u22 u23 u24 u25 u26 u27 u28 u29 u30 u31 u32 u33 u34 u35 u36 u37 u38 u39 u40 u41 u42 u43 u44 u45 u46 u47 u48 u49 u50 u51 u52 u53 u54 u55 u56 u57 : Value}
    {Q : Exit → Act → World → Prop} (hN : Reg.NoQ Q)
    (hQ : ∀ (x33 x34 x35 x36 x37 x38 x39 x40 : Value) (w' : World) (s1 s2 : Value), WrS base w w' v1 v2 s1 (n1 + 1) (xs1 ++ [.int .i64 2]) s2 (n2 + 1) (xs2 ++ [.int .i64 (x : Int)]) → Q .normal ⟨List.toArray (u0 :: u1 :: s1 :: s2 :: u4 :: u5 :: u6 :: u7 :: u8 :: u9 :: (.pointer (some ⟨gd, 0, none⟩)) :: u11 :: u12 :: u13 :: u14 :: u15 :: u16 :: u17 :: u18 :: u19 :: u20 :: u21 :: u22 :: u23 :: u24 :: u25 :: u26 :: u27 :: u28 :: u29 :: u30 :: u31 :: u32 :: x33 :: x34 :: 
      x35 :: x36 :: x37 :: x38 :: x39 :: x40 :: u41 :: u42 :: u43 :: u44 :: u45 :: u46 :: u47 :: u48 :: u49 :: u50 :: u51 :: u52 :: u53 :: u54 :: u55 :: u56 :: u57 :: []), []⟩ w') :
    (regionAt Try.f58 4).wp Try.prog Q ⟨List.toArray (u0 :: u1 :: v1 :: v2 :: u4 :: u5 :: u6 :: u7 :: u8 :: u9 :: (.pointer (some ⟨gd, 0, none⟩)) :: u11 :: u12 :: u13 :: u14 :: u15 :: u16 :: u17 :: u18 :: u19 :: u20 :: u21 :: u22 :: u23 :: u24 :: u25 :: u26 :: u27 :: u28 :: u29 :: u30 :: u31 :: u32 :: u33 :: u34 :: 
      u35 :: u36 :: u37 :: u38 :: u39 :: u40 :: u41 :: u42 :: u43 :: u44 :: u45 :: u46 :: u47 :: u48 :: u49 :: u50 :: u51 :: u52 :: u53 :: u54 :: u55 :: u56 :: u57 :: []), []⟩ w := by
  conv => arg 2; whnf
  refine Reg.region_spl [0, 0, 3, 0, 0, 16, 48, 127, 255, 511] (.node 1 6 (.node 2 6 (.leaf [0, 3, 4, 5, 1, 2, 6, 7, 8, 9]) (.leaf [0, 3, 4, 5, 1, 6, 2, 7, 8, 9])) (.leaf [0, 3, 4, 5, 6, 1, 2, 7, 8, 9])) (by kernel_rfl) hN ?_
  dsimp only [Reg.Spl.goal]
  replace hW := hW.drew
  replace hB : Blk w.drew gd 59 #[.int .i64 (x : Int), z1, z2, z3] := hB
  obtain ⟨wd, hwd⟩ : ∃ wd, w.drew = wd := ⟨_, rfl⟩
  rw [hwd] at hW hB ⊢
  clear hwd
  have hcb := hB.cell
  refine ⟨⟨?_, ?_⟩, ?_⟩
  · refine Reg.rest_walkE [0, 3, 4, 5] _ rfl rfl (by kernel_rfl) ?_
    intro Qf hQf
    go_wp2_with fail
    first | refine hQf _ _ ?_ | (rw [List.filterMap_nil]; go_wp2_with fail)
    refine Reg.rest_walkE [1] _ rfl rfl (by kernel_rfl) ?_
    intro Qf hQf
    refine wpList_build1 rfl _ 2 rfl rfl ?_
    intro e1 y nb1 hb hg
    refine hQf _ _ ?_
    clear hQf
    replace hW := hW.below hb
    replace hB := hB.below hb
    refine Reg.rest_act' 2 _ [5] rfl (by kernel_rfl) ?_
    intro Qf hQf
    simp only [List.getElem_toArray, List.getElem_cons_succ, List.getElem_cons_zero]
    refine wpList_app row22 rfl _ _ rfl base v1 n1 xs1 rfl hW.r1 ⟨e1, 0, none⟩ 1 1 [.int .i64 2] rfl rfl (news1 nb1) (by simp [Value.oneCell']) (by omega) (by omega) (Nat.le_trans hW.base_ hW.kept.size) ?_
    intro g1 cap1 y ho hk hm hl
    have hB' := row_kept hW.r1 hB (.inr (by decide)) hk
    refine hQf _ _ ⟨?_, ?_⟩
    · intro zz hz qo hqo
      simp only [List.mem_cons, List.not_mem_nil, or_false] at hz
      rcases hz with rfl
      · injection hqo with hqo
        subst hqo
        exact Reg.same_load1 rfl rfl (hB.cell 0) (hB'.cell 0) Try.underlying3 rfl
    replace hW := hW.app1 ho hk hm
    replace hB := hB'
    clear hQf ho hk hm hB'
    refine Reg.rest_walkE [6] _ rfl rfl (by kernel_rfl) ?_
    intro Qf hQf
    refine wpList_build1 rfl _ x rfl rfl ?_
    intro e2 y nb2 hb hg
    refine hQf _ _ ?_
    clear hQf
    have hne2 : ∀ k, _ = some k → k ≠ e2 := fun k hk => by have := own_lt hW.r1 hk; omega
    replace hW := hW.below hb
    replace hB := hB.below hb
    refine Reg.rest_walkE [7] _ rfl rfl (by kernel_rfl) ?_
    intro Qf hQf
    refine wpList_app row22 rfl _ _ rfl base v2 n2 xs2 rfl hW.r2 ⟨e2, 0, none⟩ 1 1 [.int .i64 x] rfl rfl (news1 nb2) (by simp [Value.oneCell']) (by omega) (by omega) (Nat.le_trans hW.base_ hW.kept.size) ?_
    intro g2 cap2 y ho hk hm hl2
    refine hQf _ _ ?_
    replace hW := hW.app2 ho hk hm
    clear hQf
    refine Reg.rest_walkE [8, 9] _ rfl rfl (by kernel_rfl) ?_
    intro Qf hQf
    go_wp2_with fail
    first | refine hQf _ _ ?_ | skip
    refine Reg.rest_end ?_
    exact hQ _ _ _ _ _ _ _ _ _ _ _ hW
  · refine Reg.rest_walkE [0, 3, 4, 5] _ rfl rfl (by kernel_rfl) ?_
    intro Qf hQf
    go_wp2_with fail
    first | refine hQf _ _ ?_ | (rw [List.filterMap_nil]; go_wp2_with fail)
    refine Reg.rest_walkE [1] _ rfl rfl (by kernel_rfl) ?_
    intro Qf hQf
    refine wpList_build1 rfl _ 2 rfl rfl ?_
    intro e1 y nb1 hb hg
    refine hQf _ _ ?_
    clear hQf
    replace hW := hW.below hb
    replace hB := hB.below hb
    refine Reg.rest_walkE [6] _ rfl rfl (by kernel_rfl) ?_
    intro Qf hQf
    refine wpList_build1 rfl _ x rfl rfl ?_
    intro e2 y nb2 hb hg
    refine hQf _ _ ?_
    clear hQf
    have hne2 : ∀ k, _ = some k → k ≠ e2 := fun k hk => by have := own_lt hW.r1 hk; omega
    replace hW := hW.below hb
    replace hB := hB.below hb
    replace nb1 := nb1.below hb
    refine Reg.rest_act' 2 _ [5] rfl (by kernel_rfl) ?_
    intro Qf hQf
    simp only [List.getElem_toArray, List.getElem_cons_succ, List.getElem_cons_zero]
    refine wpList_app row22 rfl _ _ rfl base v1 n1 xs1 rfl hW.r1 ⟨e1, 0, none⟩ 1 1 [.int .i64 2] rfl rfl (news1 nb1) (by simp [Value.oneCell']) (by omega) (by omega) (Nat.le_trans hW.base_ hW.kept.size) ?_
    intro g1 cap1 y ho hk hm hl
    have hB' := row_kept hW.r1 hB (.inr (by decide)) hk
    refine hQf _ _ ⟨?_, ?_⟩
    · intro zz hz qo hqo
      simp only [List.mem_cons, List.not_mem_nil, or_false] at hz
      rcases hz with rfl
      · injection hqo with hqo
        subst hqo
        exact Reg.same_load1 rfl rfl (hB.cell 0) (hB'.cell 0) Try.underlying3 rfl
    replace nb2 := Blk.kept nb2 hk fun e => hne2 _ e rfl
    replace hW := hW.app1 ho hk hm
    replace hB := hB'
    clear hQf ho hk hm hB'
    refine Reg.rest_walkE [7] _ rfl rfl (by kernel_rfl) ?_
    intro Qf hQf
    refine wpList_app row22 rfl _ _ rfl base v2 n2 xs2 rfl hW.r2 ⟨e2, 0, none⟩ 1 1 [.int .i64 x] rfl rfl (news1 nb2) (by simp [Value.oneCell']) (by omega) (by omega) (Nat.le_trans hW.base_ hW.kept.size) ?_
    intro g2 cap2 y ho hk hm hl2
    refine hQf _ _ ?_
    replace hW := hW.app2 ho hk hm
    clear hQf
    refine Reg.rest_walkE [8, 9] _ rfl rfl (by kernel_rfl) ?_
    intro Qf hQf
    go_wp2_with fail
    first | refine hQf _ _ ?_ | skip
    refine Reg.rest_end ?_
    exact hQ _ _ _ _ _ _ _ _ _ _ _ hW
  · refine Reg.rest_walkE [0, 3, 4, 5] _ rfl rfl (by kernel_rfl) ?_
    intro Qf hQf
    go_wp2_with fail
    first | refine hQf _ _ ?_ | (rw [List.filterMap_nil]; go_wp2_with fail)
    refine Reg.rest_walkE [6] _ rfl rfl (by kernel_rfl) ?_
    intro Qf hQf
    refine wpList_build1 rfl _ x rfl rfl ?_
    intro e2 y nb2 hb hg
    refine hQf _ _ ?_
    clear hQf
    have hne2 : ∀ k, _ = some k → k ≠ e2 := fun k hk => by have := own_lt hW.r1 hk; omega
    replace hW := hW.below hb
    replace hB := hB.below hb
    refine Reg.rest_walkE [1] _ rfl rfl (by kernel_rfl) ?_
    intro Qf hQf
    refine wpList_build1 rfl _ 2 rfl rfl ?_
    intro e1 y nb1 hb hg
    refine hQf _ _ ?_
    clear hQf
    replace hW := hW.below hb
    replace hB := hB.below hb
    replace nb2 := nb2.below hb
    refine Reg.rest_act' 2 _ [5] rfl (by kernel_rfl) ?_
    intro Qf hQf
    simp only [List.getElem_toArray, List.getElem_cons_succ, List.getElem_cons_zero]
    refine wpList_app row22 rfl _ _ rfl base v1 n1 xs1 rfl hW.r1 ⟨e1, 0, none⟩ 1 1 [.int .i64 2] rfl rfl (news1 nb1) (by simp [Value.oneCell']) (by omega) (by omega) (Nat.le_trans hW.base_ hW.kept.size) ?_
    intro g1 cap1 y ho hk hm hl
    have hB' := row_kept hW.r1 hB (.inr (by decide)) hk
    refine hQf _ _ ⟨?_, ?_⟩
    · intro zz hz qo hqo
      simp only [List.mem_cons, List.not_mem_nil, or_false] at hz
      rcases hz with rfl
      · injection hqo with hqo
        subst hqo
        exact Reg.same_load1 rfl rfl (hB.cell 0) (hB'.cell 0) Try.underlying3 rfl
    replace nb2 := Blk.kept nb2 hk fun e => hne2 _ e rfl
    replace hW := hW.app1 ho hk hm
    replace hB := hB'
    clear hQf ho hk hm hB'
    refine Reg.rest_walkE [7] _ rfl rfl (by kernel_rfl) ?_
    intro Qf hQf
    refine wpList_app row22 rfl _ _ rfl base v2 n2 xs2 rfl hW.r2 ⟨e2, 0, none⟩ 1 1 [.int .i64 x] rfl rfl (news1 nb2) (by simp [Value.oneCell']) (by omega) (by omega) (Nat.le_trans hW.base_ hW.kept.size) ?_
    intro g2 cap2 y ho hk hm hl2
    refine hQf _ _ ?_
    replace hW := hW.app2 ho hk hm
    clear hQf
    refine Reg.rest_walkE [8, 9] _ rfl rfl (by kernel_rfl) ?_
    intro Qf hQf
    go_wp2_with fail
    first | refine hQf _ _ ?_ | skip
    refine Reg.rest_end ?_
    exact hQ _ _ _ _ _ _ _ _ _ _ _ hW
end Go.Proofs.Ytnimlcbgeiajiaa

namespace Go.Proofs.Ytnimlcbgeiajiaa
open Go.RowKit

def ints (l : List Int) : List Value := l.map (Value.int .i64)

theorem wr_blk {base n1 n2 m1 m2 : Nat} {w w' : World} {v1 v2 u1 u2 : Value} {xs1 xs2 ys1 ys2 : List Value} (h : WrS base w w v1 v2 v1 n1 xs1 v2 n2 xs2) (hW : WrS base w w' v1 v2 u1 m1 ys1 u2 m2 ys2)
    {g : Nat} {t : TypeId} {cs : Array Value} (hg : Blk w g t cs) (hb : g < base ∨ t ≠ 3) : Blk w' g t cs :=
  hg.kept hW.kept fun e => by
    rcases e with e | e
    · rcases hb with hb | hb
      · have := own_base h.r1 e; omega
      · exact own_blk_ne h.r1 hg (fun e => hb e.symm) e
    · rcases hb with hb | hb
      · have := own_base h.r2 e; omega
      · exact own_blk_ne h.r2 hg (fun e => hb e.symm) e
theorem WrS.again {base n1 n2 : Nat} {w0 w : World} {v1 v2 u1 u2 : Value} {xs1 xs2 : List Value} (h : WrS base w0 w v1 v2 u1 n1 xs1 u2 n2 xs2) : WrS base w w u1 u2 u1 n1 xs1 u2 n2 xs2 :=
  WrS.start h.r1 h.r2 h.ap (Nat.le_trans h.base_ h.kept.size)

set_option maxHeartbeats 8000000 in
set_option maxRecDepth 100000 in
theorem write_any {lf : List Int} {fr : List Branch} {S gs gl gf base : Nat} (hlf : lf.length = S) (hgl : gl < base) (hgf : gf < base) {t : Tr} : ∀ {q : Nat}, Wr lf fr q t → ∀ (w : World) (v1 v2 : Value) (n1 n2 : Nat) (xs1 xs2 : List Value),
    WrS base w w v1 v2 v1 n1 xs1 v2 n2 xs2 → Blk w gl 3 (lf.map (Value.int .i64)).toArray → Blk w gf 59 (fr.flatMap brCells).toArray → n1 + t.nodes ≤ 800000 → n2 + t.nodes ≤ 800000 →
    Calls Try.prog 58 #[.agg #[.slice (some ⟨gs, 0, none⟩) S S, .slice (some ⟨gl, 0, none⟩) S S, .slice (some ⟨gf, 0, none⟩) S S], .int .i64 (q : Int), v1, v2] w
      (Ret fun r w' => ∃ s1 s2, r = .tuple #[s1, s2] ∧ WrS base w w' v1 v2 s1 (n1 + t.nodes) (xs1 ++ ints t.sh) s2 (n2 + t.nodes) (xs2 ++ ints t.lb)) := by
  induction t with
  | leaf x =>
    intro q hw w v1 v2 n1 n2 xs1 xs2 hW hL hF hn1 hn2
    cases hw with
    | leaf hq =>
    have hqS := lt_of_get hq
    rw [hlf] at hqS
    obtain ⟨w1, hw1, hb1, hB1, hk1⟩ := box_blk w #[.slice (some ⟨gs, 0, none⟩) S S, .slice (some ⟨gl, 0, none⟩) S S, .slice (some ⟨gf, 0, none⟩) S S] 75
    have hW1 := hW.below hb1
    have hL1 := hL.below hb1
    have hcb := hB1.cell
    have hcl : w1.cell? ⟨gl, q, none⟩ = some (.int .i64 (x : Int)) := by rw [hL1.cell]; simp [hq]
    have hx0 : (0 : Int) ≤ (x : Int) := by omega
    have hQ := hide hq
    have hWW := hide hW
    have hWW1 := hide hW1
    simp only [Tr.nodes] at hn1 hn2
    clear hq hW hW1 hL hF
    go_enter Try.func58, Try.ntmps58
    go_wp2_with fail
    have hst1 := WrS.start hWW1.out.r1 hWW1.out.r2 hWW1.out.ap (Nat.le_trans hWW1.out.base_ hWW1.out.kept.size)
    refine wr_leaf hst1 (by omega) (by omega) hB1 hL1 hgl hQ.out hqS (by repeat (first | exact Reg.NoQ.body (fun _ _ h => h) (fun _ h => h) | refine Reg.NoQ.then ?_ | refine Reg.NoQ.inBlock ?_)) ?_
    iterate 11 (intro _)
    intro w2 s1 s2 hW2
    have hfin := hide (hWW1.out.trans hW2)
    clear hW2 hst1 hcb hcl
    go_wp2_with fail
    go_ret2
    exact ⟨s1, s2, rfl, hfin.out⟩
  | node x s t ihs iht =>
    intro q hw w v1 v2 n1 n2 xs1 xs2 hW hL hF hn1 hn2
    cases hw with
    | node hq hb hs ht =>
    rename_i f g to
    have hqS := lt_of_get hq
    rw [hlf] at hqS
    obtain ⟨w1, hw1, hb1, hB1, hk1⟩ := box_blk w #[.slice (some ⟨gs, 0, none⟩) S S, .slice (some ⟨gl, 0, none⟩) S S, .slice (some ⟨gf, 0, none⟩) S S] 75
    have hW1 := hW.below hb1
    have hL1 := hL.below hb1
    have hF1 := hF.below hb1
    have hcb := hB1.cell
    have hcl : w1.cell? ⟨gl, q, none⟩ = some (.int .i64 (-1)) := by rw [hL1.cell]; simp [hq]
    have hff : ∀ j, j < 4 → w1.cell? ⟨gf, q * 4 + j, none⟩ = some (encBr ⟨x, f, g, to⟩ j) := fun j hj => by
      rw [hF1.cell]
      simpa using flat4 fr q j _ hb hj
    have hc0 := hff 0 (by omega)
    have hc1 := hff 1 (by omega)
    have hc2 := hff 2 (by omega)
    have hc3 := hff 3 (by omega)
    simp only [Nat.add_zero, encBr] at hc0 hc1 hc2 hc3
    obtain ⟨w2, hw2, hb2, hB2, hk2⟩ := box_blk w1 #[.int .i64 (x : Int), .int .i64 (f : Int), .int .i64 (g : Int), .int .i64 to] 59
    have hW2 := hW1.below hb2
    have hB12 := hB1.kept hk2 id
    have hL2 := hL1.below hb2
    have hF2 := hF1.below hb2
    have hWW := hide hW2
    have hss := hide (ihs hs)
    have htt := hide (iht ht)
    simp only [Tr.nodes] at hn1 hn2 ⊢
    have hp1 := s.pos
    have hp2 := t.pos
    clear hq hb hW hW1 hL hF hff hL1 hF1 hs ht hW2 ihs iht
    go_enter Try.func58, Try.ntmps58
    go_wp2_with fail
    have hst1 := WrS.start hWW.out.r1 hWW.out.r2 hWW.out.ap (Nat.le_trans hWW.out.base_ hWW.out.kept.size)
    refine wr_node hst1 (by omega) (by omega) hB2 (by repeat (first | exact Reg.NoQ.body (fun _ _ h => h) (fun _ h => h) | refine Reg.NoQ.then ?_ | refine Reg.NoQ.inBlock ?_)) ?_
    iterate 8 (intro _)
    intro w3 s1 s2 hW3
    have hB3 := wr_blk hst1 hW3 hB12 (.inr (by decide))
    have hD3 := wr_blk hst1 hW3 hB2 (.inr (by decide))
    have hL3 := wr_blk hst1 hW3 hL2 (.inl hgl)
    have hF3 := wr_blk hst1 hW3 hF2 (.inl hgf)
    have hcb3 := hB3.cell
    have hcd3 := hD3.cell
    have hWW3 := hide (hWW.out.trans hW3)
    have hst3 := hide hW3.again
    have hHB3 := hide hB3
    have hHD3 := hide hD3
    have hHL3 := hide hL3
    have hHF3 := hide hF3
    clear hW3 hst1 hcb hc0 hc1 hc2 hc3 hcl hB3 hD3 hL3 hF3 hB12 hB2 hL2 hF2
    go_wp2_with fail
    refine Calls.ret (hss.out w3 s1 s2 _ _ _ _ hst3.out hHL3.out hHF3.out (by omega) (by omega)) ?_
    rintro r4 w4 ⟨t1, t2, rfl, hW4⟩
    have hcb4 := (wr_blk hst3.out hW4 hHB3.out (.inr (by decide))).cell
    have hcd4 := (wr_blk hst3.out hW4 hHD3.out (.inr (by decide))).cell
    have hL4 := hide (wr_blk hst3.out hW4 hHL3.out (.inl hgl))
    have hF4 := hide (wr_blk hst3.out hW4 hHF3.out (.inl hgf))
    have hWW4 := hide (hWW3.out.trans hW4)
    have hst4 := hide hW4.again
    clear hW4 hcb3 hcd3
    go_wp2_with fail
    refine Calls.ret (htt.out w4 t1 t2 _ _ _ _ hst4.out hL4.out hF4.out (by omega) (by omega)) ?_
    rintro r5 w5 ⟨r1, r2, rfl, hW5⟩
    have hWW5 := hide (hWW4.out.trans hW5)
    clear hW5
    go_wp2_with fail
    go_ret2
    have hfin := hWW5.out
    refine ⟨r1, r2, rfl, ?_⟩
    have e1 : n1 + 1 + s.nodes + t.nodes = n1 + (1 + s.nodes + t.nodes) := by omega
    have e2 : n2 + 1 + s.nodes + t.nodes = n2 + (1 + s.nodes + t.nodes) := by omega
    have e3 : xs1 ++ [.int .i64 2] ++ ints s.sh ++ ints t.sh = xs1 ++ ints (Tr.node x s t).sh := by simp [ints, Tr.sh]
    have e4 : xs2 ++ [.int .i64 (x : Int)] ++ ints s.lb ++ ints t.lb = xs2 ++ ints (Tr.node x s t).lb := by simp [ints, Tr.lb]
    rw [e1, e2, e3, e4] at hfin
    exact hfin
end Go.Proofs.Ytnimlcbgeiajiaa

namespace Go.Proofs.Ytnimlcbgeiajiaa
open Go.RowKit

def accT (a : TA) (sh lb : List Int) : Value := if a.valid && validT a.letters sh lb then .tuple #[.bool (a.lang (treeOf sh lb)), .int .i64 0] else .tuple #[.bool false, .int .i64 1]

theorem stk_nil_at {sh lb : List Int} {i : Nat} (h : sh.length ≤ i) : stk (sh.drop i) (lb.drop i) = some [] := by
  rw [List.drop_eq_nil_of_le h]
  simp [stk]
theorem masks_get {a : TA} {t1 t2 : Tr} {r : List Tr} : (masks a (t1 :: t2 :: r))[r.length]? = some (.int .u64 (a.mask t2 : Int)) ∧ (masks a (t1 :: t2 :: r))[r.length + 1]? = some (.int .u64 (a.mask t1 : Int)) := by
  rw [masks_two]
  constructor
  · rw [List.getElem?_append_right (by rw [masks_len]; omega), masks_len, Nat.sub_self]; rfl
  · rw [List.getElem?_append_right (by rw [masks_len]; omega), masks_len, Nat.add_sub_cancel_left]; rfl
theorem masks_take {a : TA} {t1 t2 : Tr} {r : List Tr} : (masks a (t1 :: t2 :: r)).take (r.length * 1) = masks a r := by
  rw [masks_two, Nat.mul_one, List.take_append_of_le_length (by rw [masks_len]; omega), List.take_of_length_le (by rw [masks_len]; omega)]
theorem TA.valid_parts {a : TA} (h : a.valid = true) : 1 ≤ a.letters ∧ a.letters ≤ 8 ∧ 0 ≤ a.states ∧ a.states ≤ 64 ∧ a.accept.all (inR · 0 a.states) = true ∧ (∀ q ∈ a.accept, 0 ≤ q ∧ q < 64) ∧ (∀ e ∈ a.leaves, e.to < 64) ∧ (∀ e ∈ a.branches, e.to < 64) := by
  simp only [TA.valid, TA.head, Bool.and_eq_true, decide_eq_true_eq] at h
  obtain ⟨⟨⟨⟨⟨⟨h1, h2⟩, h3⟩, h4⟩, h5⟩, h6⟩, h7⟩ := h
  refine ⟨h1, h2, h3, h4, h5, fun q hq => ?_, fun e he => ?_, fun e he => ?_⟩
  · have := List.all_eq_true.1 h5 q hq
    simp only [inR, Bool.and_eq_true, decide_eq_true_eq] at this
    omega
  · have := List.all_eq_true.1 h6 e he
    simp only [okLeaf, inR, Bool.and_eq_true, decide_eq_true_eq] at this
    omega
  · have := List.all_eq_true.1 h7 e he
    simp only [okBranch, inR, Bool.and_eq_true, decide_eq_true_eq] at this
    omega
theorem TA.mask_u64 {a : TA} (h : a.valid = true) (t : Tr) : U64 (a.mask t) := by
  obtain ⟨-, -, -, -, -, -, h1, h2⟩ := TA.valid_parts h
  cases t with
  | leaf x => exact U64.leafM h1
  | node x s t => exact U64.brM fun e he => h2 e (List.mem_filter.1 he).1

theorem own_cap {w : World} {base size n c : Nat} {e : TypeId} {g : Addr} {xs : List Value} (h : w.ownsRow base e size (.slice (some g) n c) n xs) : n ≤ c := by
  rcases h.2 with ⟨h1, _⟩ | ⟨g', cap', cur, hv, _, _, hc, _⟩
  · cases h1
  · injection hv with _ _ hv
    omega
set_option maxHeartbeats 8000000 in
set_option maxRecDepth 100000 in
theorem accepts_any {v : Value} {a : TA} {w : World} {B1 B2 c1' c2' : Nat} {D1 D2 : Option Addr} {sh lb : List Int} (h : IsTA w w.heap.size v a) (hs : Sl w B1 1 encI D1 sh) (hl : Sl w B2 1 encI D2 lb) (hB1 : B1 ≤ w.heap.size) (hB2 : B2 ≤ w.heap.size) :
    Calls Try.prog 28 #[v, .slice D1 sh.length c1', .slice D2 lb.length c2'] w (Ret fun r w' => r = accT a sh lb ∧ Below w.heap.size w w') := by
  have hIn := h
  obtain ⟨A1, c1, A2, c2, A3, c3, rfl, h1, h2, h3⟩ := h
  obtain ⟨w1, hw1, hb1, hB, hk1⟩ := box_blk w #[.int .i64 a.letters, .int .i64 a.states, .slice A1 a.accept.length c1, .slice A2 a.leaves.length c2, .slice A3 a.branches.length c3] 26
  have hcb := hB.cell
  have hsz := hb1.size
  have hT : IsTA w1 w1.heap.size (.agg #[.int .i64 a.letters, .int .i64 a.states, .slice A1 a.accept.length c1, .slice A2 a.leaves.length c2, .slice A3 a.branches.length c3]) a :=
    ⟨A1, c1, A2, c2, A3, c3, rfl, (h1.below hb1).mono hsz, (h2.below hb1).mono hsz, (h3.below hb1).mono hsz⟩
  have hHB := hide hB
  have hHT := hide hT
  have hn1 := h1.1
  have hns := hs.1
  have hnl := hl.1
  clear hT
  cases hv : a.valid
  · have hV := hide hv
    clear hv
    have he : Hid (accT a sh lb = .tuple #[.bool false, .int .i64 1]) := by show _ = _; simp [accT, hV.out]
    go_enter Try.func28, Try.ntmps28
    go_wp2_with (go_at_call 18; refine (validate_any _ _ _ hHT.out).mono ?_; rintro e w' ⟨rfl, hb⟩; rw [hV.out]; simp only [errno]; have hb2 := hide hb; clear hb)
    go_ret2
    exact ⟨he.out.symm, hb1.trans (hb2.out.mono hsz)⟩
  · have hV := hide hv
    clear hv
    cases hvt : validT a.letters sh lb
    · have hVT := hide hvt
      clear hvt
      have he : Hid (accT a sh lb = .tuple #[.bool false, .int .i64 1]) := by show _ = _; simp [accT, hVT.out]
      go_enter Try.func28, Try.ntmps28
      go_wp2_with (first | (go_at_call 18; refine (validate_any _ _ _ hHT.out).mono ?_; rintro e w2 ⟨rfl, hb⟩; rw [hV.out]; simp only [errno]; have hb2 := hide hb; have hcb2 := (hB.kept (Kept.of_below hb (fun _ => False)) id).cell; have hs2 := hide ((hs.mono hB1).below (hb1.trans (hb.mono hsz))); have hl2 := hide ((hl.mono hB2).below (hb1.trans (hb.mono hsz))); clear hb) | (go_at_call 42; refine (validTree_any hs2.out hl2.out).mono ?_; rintro e w3 ⟨rfl, rfl⟩; rw [hVT.out]))
      go_ret2
      exact ⟨he.out.symm, hb1.trans (hb2.out.mono hsz)⟩
    · obtain ⟨hst, hok, hlen, hn1', hn2'⟩ := validT_tree hvt
      have hgo : vtGo a.letters 1 sh lb = true := by
        simp only [validT, Bool.and_eq_true] at hvt
        exact hvt.2
      have hVT := hide hvt
      have hST := hide hst
      have hGO := hide hgo
      have hLEN := hide hlen
      clear hvt hst hgo hlen
      obtain ⟨hL1, hL8, hS0, hS64, -, hacc, -, -⟩ := TA.valid_parts hV.out
      have hACC := hide hacc
      clear hacc
      go_enter Try.func28, Try.ntmps28
      go_wp2_with (first | (go_at_call 18; refine (validate_any _ _ _ hHT.out).mono ?_; rintro e w2 ⟨rfl, hb⟩; rw [hV.out]; simp only [errno]; have hb2 := hide hb; have hcb2 := (hB.kept (Kept.of_below hb (fun _ => False)) id).cell; have hs2 := hide ((hs.mono hB1).below (hb1.trans (hb.mono hsz))); have hl2 := hide ((hl.mono hB2).below (hb1.trans (hb.mono hsz))); clear hb) | (go_at_call 42; refine (validTree_any hs2.out hl2.out).mono ?_; rintro e w3 ⟨rfl, rfl⟩; rw [hVT.out]))
      have hW2 := hb2.out
      clear hs2 hl2 hcb2 hcb
      go_loopw [9, 10] (fun kk ii wr => ∃ (i : Nat) (s : List Tr), ii = .int .i64 ((i : Int) - 1) ∧ i ≤ sh.length ∧ Hid (stk (sh.drop i) (lb.drop i) = some s) ∧ Hid (wr.ownsRow w1.heap.size 70 1 kk s.length (masks a s)) ∧ Hid (i + s.length ≤ sh.length + 1) ∧ Below w1.heap.size w1 wr) (fun _ ii _ => (intOf ii + 1).toNat)
      case atStart => exact ⟨sh.length, [], rfl, Nat.le_refl _, stk_nil_at (Nat.le_refl _), own_nil, Nat.le_succ _, hW2⟩
      case round =>
        obtain ⟨i, s, rfl, hi, hs3, hown, hsl, hbr⟩ := hrel
        have hBr := hB.kept (Kept.of_below hbr (fun _ => False)) id
        have hcbr := hBr.cell
        have hszr := hbr.size
        obtain ⟨A, c, rfl⟩ := slice_of_own hown.out
        by_cases hlt : 0 < i
        · obtain ⟨k, rfl⟩ : ∃ k, i = k + 1 := ⟨i - 1, by omega⟩
          rw [show (((k + 1 : Nat) : Int) - 1) = (k : Int) from by omega]
          obtain ⟨cd, l, s', hc, hl', hl0, hs', hcase⟩ := stk_at sh lb 1 (by omega) hGO.out k (by omega)
          have hss : s' = s := by
            have := hs3.out
            rw [hs'] at this
            exact Option.some.inj this
          subst hss
          obtain ⟨x, rfl⟩ := Int.eq_ofNat_of_zero_le hl0
          simp only [Int.toNat_natCast] at hcase
          obtain ⟨b1, o1, c', rfl, hb1', hc', hcc⟩ := hs.at (k := k) (by omega)
          obtain ⟨b2, o2, l', rfl, hb2', hl'', hlc⟩ := hl.at (k := k) (by rw [hLEN.out]; omega)
          rw [hc] at hc'
          rw [hl'] at hl''
          injection hc' with hc'
          injection hl'' with hl''
          subst hc' hl''
          have hc0 := (hbr.cell (by show b1 < _; omega)).trans ((hb1.cell (by show b1 < _; omega)).trans (hcc 0 (by omega)))
          have hl0' := (hbr.cell (by show b2 < _; omega)).trans ((hb1.cell (by show b2 < _; omega)).trans (hlc 0 (by omega)))
          simp only [Nat.mul_one, Nat.add_zero, encI] at hc0 hl0'
          have hTr : IsTA wr.drew wr.drew.heap.size (.agg #[.int .i64 a.letters, .int .i64 a.states, .slice A1 a.accept.length c1, .slice A2 a.leaves.length c2, .slice A3 a.branches.length c3]) a := hHT.out.keep (fun _ hp => hbr.drew.cell hp) hszr
          have hTR := hide hTr
          have hownd := hide ((Kept.refl wr (fun _ => False)).drew.ownsRow hown.out (fun _ _ => id))
          have hszd : wr.drew.heap.size = wr.heap.size := rfl
          have hkl := hLEN.out
          have hKL := hide hkl
          have hklb : k < lb.length := by omega
          clear hc hl' hs' hcc hlc hl0 hTr hs3 hkl
          have hcount := hsl.out
          rcases hcase with ⟨rfl, hnext⟩ | ⟨rfl, t1, t2, r, rfl, hnext⟩
          · have hNX := hide hnext
            clear hnext
            go_wp2_with fail
            refine Reg.region_plain [0, 0, 0, 6, 14, 31, 63] (by kernel_rfl) (by repeat (first | exact Reg.NoQ.body (fun _ _ h => h) (fun _ h => h) | refine Reg.NoQ.then ?_ | refine Reg.NoQ.inBlock ?_)) ?_
            go_wp2_with (first | (go_at_call 53; refine Calls.ret (leafSet_any _ a _ x hTR.out hV.out) ?_; rintro v w3 ⟨rfl, hU, hb3⟩; have hU3 := hide hU; have hb33 := hide hb3; have hsz3 := hb3.size; have hbase3 : w1.heap.size ≤ w3.heap.size := by omega
                                  have hown3 := (Kept.of_below hb3 (fun _ => False)).ownsRow hownd.out (fun _ _ => id); clear hU hb3) | (at_builtin; refine wpList_app_new row69 rfl _ _ rfl w1.heap.size (.slice A s'.length c) s'.length _ rfl hown3 [.int .u64 (a.leafS x : Int)] 1 rfl rfl (by simp [Value.oneCell']) (by omega) hbase3 ?_; intro g cap' w4 hown4 hk4 hmv4 hg4))
            refine ⟨⟨k, .leaf x :: s', by go_num, by omega, hNX.out, ?_, by show _ ≤ _; simp; omega, ?_⟩, by simp [intOf]⟩
            · show World.ownsRow _ _ _ _ _ _ _
              rw [masks_cons]
              exact hown4
            · refine (hbr.drew.trans (hb33.out.mono hszr)).trans (hk4.below hbase3 (fun b hb e => ?_))
              have := own_base hown3 e
              omega
          · have hNX := hide hnext
            clear hnext
            simp only [List.length_cons] at *
            have hg1 := hide (own_get hown.out (masks_get (a := a) (t1 := t1) (t2 := t2) (r := r)).1)
            have hg2 := hide (own_get hown.out (masks_get (a := a) (t1 := t1) (t2 := t2) (r := r)).2)
            obtain ⟨g, cap, hv1, hcl1⟩ := hg1.out
            obtain ⟨g', cap', hv2, hcl2⟩ := hg2.out
            injection hv1 with hv1 _ hv1c
            injection hv2 with hv2 _ hv2c
            subst hv1 hv1c hv2c
            injection hv2 with hv2
            injection hv2 with hv2
            subst hv2
            have hcap := own_cap hown.out
            clear hg1 hg2
            have hU1 := TA.mask_u64 hV.out t1
            have hU2 := TA.mask_u64 hV.out t2
            go_wp2_with fail
            refine Reg.region_ints' [0, 0, 0, 6, 14, 0, 0, 64, 224, 480, 0, 0, 2048, 7168, 15360, 32767, 65535] (by kernel_rfl) (by repeat (first | exact Reg.NoQ.body (fun _ _ h => h) (fun _ h => h) | refine Reg.NoQ.then ?_ | refine Reg.NoQ.inBlock ?_)) ?_
            intro Qf hQf
            go_wp2_with (go_at_call 54; refine Calls.ret (branchSet_any _ a _ x (a.mask t1) (a.mask t2) hTR.out hV.out hU1 hU2) ?_; rintro v w3 ⟨rfl, hU, hb3⟩; have hU3 := hide hU; have hb33 := hide hb3; have hsz3 := hb3.size; have hbase3 : w1.heap.size ≤ w3.heap.size := by omega
                         have hown3 := (Kept.of_below hb3 (fun _ => False)).ownsRow hownd.out (fun _ _ => id); clear hU hb3)
            refine ⟨rfl, ?_⟩
            have hown5 := own_shrink (m := r.length) hown3 (by omega)
            rw [masks_take] at hown5
            go_wp2_with (at_builtin; refine wpList_app_new row69 rfl _ _ rfl w1.heap.size (.slice (some ⟨g, 0, none⟩) r.length c) r.length _ rfl hown5 [.int .u64 (a.brS x (a.mask t1) (a.mask t2) : Int)] 1 rfl rfl (by simp [Value.oneCell']) (by omega) hbase3 ?_; intro g2 cap' w4 hown4 hk4 hmv4 hg4)
            refine ⟨⟨k, .node x t1 t2 :: r, by go_num, by omega, hNX.out, ?_, by show _ ≤ _; simp; omega, ?_⟩, by simp [intOf]⟩
            · show World.ownsRow _ _ _ _ _ _ _
              rw [masks_cons]
              exact hown4
            · refine (hbr.drew.trans (hb33.out.mono hszr)).trans (hk4.below hbase3 (fun b hb e => ?_))
              have := own_base hown5 e
              omega
        · have hi0 : i = 0 := by omega
          subst hi0
          rw [show (((0 : Nat) : Int) - 1) = -1 from rfl]
          have hs4 : s = [treeOf sh lb] := by
            have := hs3.out
            rw [List.drop_zero, List.drop_zero, hST.out] at this
            exact (Option.some.inj this).symm
          subst hs4
          obtain ⟨g, cap, hv1, hcl⟩ := own_get (k := 0) hown.out (u := .int .u64 (a.mask (treeOf sh lb) : Int)) (by simp [masks])
          injection hv1 with hv1 _ hv1c
          subst hv1 hv1c
          have hU := TA.mask_u64 hV.out (treeOf sh lb)
          have hfin : Hid (accT a sh lb = .tuple #[.bool (a.accept.any (mBit (a.mask (treeOf sh lb)))), .int .i64 0]) := by
            show _ = _
            have : a.lang (treeOf sh lb) = a.accept.any (mBit (a.mask (treeOf sh lb))) := accS_any a _ fun q hq => (hACC.out q hq).1
            simp [accT, hV.out, hVT.out, this]
          have hbW := hide (hb1.trans (hbr.mono hsz))
          clear hs3 hown hsl
          go_wp2_with fail
          go_loop [73] (fun jj => ∃ (j : Nat), jj = .int .i64 (j : Int) ∧ j ≤ a.accept.length ∧ Hid (∀ j', j' < j → ∀ q, a.accept[j']? = some q → mBit (a.mask (treeOf sh lb)) q = false)) (fun jj => a.accept.length - (intOf jj).toNat)
          case atStart => exact ⟨0, rfl, Nat.zero_le _, fun j hj => absurd hj (by omega)⟩
          case round =>
            obtain ⟨j, rfl, hj, hE⟩ := hrel
            by_cases hlt2 : j < a.accept.length
            · obtain ⟨b, off, q, rfl, hbb, hx, hc⟩ := h1.at hlt2
              have hc0 := (hbW.out.cell (by exact hbb)).trans (hc 0 (by omega))
              simp only [Nat.mul_one, Nat.add_zero, encI] at hc0
              obtain ⟨hq0, hq1⟩ := hACC.out q (List.mem_of_getElem? hx)
              have hX := hide hx
              clear hx hc
              cases hbt : mBit (a.mask (treeOf sh lb)) q
              · have hBT := hide hbt
                go_wp2_with fail
                refine ⟨⟨j + 1, by go_num, by omega, fun j' hj' q' hq' => ?_⟩, by simp [intOf]; omega⟩
                by_cases hjk : j' = j
                · subst hjk
                  rw [hX.out] at hq'
                  injection hq' with hq'
                  subst hq'
                  exact hBT.out
                · exact hE.out j' (by omega) q' hq'
              · have hBT := hide hbt
                go_wp2_with fail
                go_ret2
                refine ⟨?_, hbW.out⟩
                have : a.accept.any (mBit (a.mask (treeOf sh lb))) = true := List.any_eq_true.2 ⟨_, List.mem_of_getElem? hX.out, hBT.out⟩
                rw [hfin.out, this]
                rfl
            · go_wp2_with fail
              go_ret2
              refine ⟨?_, hbW.out⟩
              have : a.accept.any (mBit (a.mask (treeOf sh lb))) = false := List.any_eq_false.2 fun q hq => by
                obtain ⟨j', hj'⟩ := List.mem_iff_getElem?.1 hq
                rw [hE.out j' (by have := lt_of_get hj'; omega) q hj']
                simp
              rw [hfin.out, this]
              rfl
end Go.Proofs.Ytnimlcbgeiajiaa

namespace Go.Proofs.Ytnimlcbgeiajiaa
open Go.RowKit

/-- What Witness returns. -/
def WitR (w' : World) (base : Nat) (a : TA) (r : Value) : Prop :=
  (a.valid = false ∧ r = .tuple #[.slice none 0 0, .slice none 0 0, .bool false, .int .i64 1]) ∨
  (a.valid = true ∧ (∀ t, a.lang t = false) ∧ r = .tuple #[.slice none 0 0, .slice none 0 0, .bool false, .int .i64 0]) ∨
  (a.valid = true ∧ (∃ t, a.lang t = true) ∧ (∀ t, a.lang t = true → 4095 < t.nodes) ∧ r = .tuple #[.slice none 0 0, .slice none 0 0, .bool false, .int .i64 4]) ∨
  (a.valid = true ∧ ∃ t s1 s2, r = .tuple #[s1, s2, .bool true, .int .i64 0] ∧ a.lang t = true ∧ t.ok a.letters.toNat ∧ t.nodes ≤ 4095 ∧ (∀ t', a.lang t' = true → t.nodes ≤ t'.nodes) ∧
    w'.ownsRow base 3 1 s1 t.nodes (ints t.sh) ∧ w'.ownsRow base 3 1 s2 t.nodes (ints t.lb))

/-- The best accepted state so far. -/
def BestAt (acc : List Int) (sz : List Nat) (k : Nat) (b : Int) : Prop :=
  (b = -1 ∧ ∀ q ∈ acc.take k, szOf sz q = 0) ∨ (∃ q0 : Nat, b = q0 ∧ b ∈ acc ∧ szOf sz b ≠ 0 ∧ ∀ q ∈ acc.take k, szOf sz q ≠ 0 → szOf sz b ≤ szOf sz q)
theorem BestAt.start (acc : List Int) (sz : List Nat) : BestAt acc sz 0 (-1) := .inl ⟨rfl, fun q h => by simp at h⟩
theorem mem_take_succ {acc : List Int} {k : Nat} {x : Int} (hx : acc[k]? = some x) {q : Int} : q ∈ acc.take (k + 1) ↔ q ∈ acc.take k ∨ q = x := by
  rw [List.take_add_one, hx]
  simp
theorem BestAt.keep {acc : List Int} {sz : List Nat} {k : Nat} {b : Int} {q : Nat} (h : BestAt acc sz k b) (hx : acc[k]? = some (q : Int)) (hq : szOf sz (q : Int) = 0 ∨ (0 ≤ b ∧ szOf sz b ≤ szOf sz (q : Int))) : BestAt acc sz (k + 1) b := by
  rcases h with ⟨rfl, h⟩ | ⟨q0, rfl, h1, h2, h3⟩
  · refine .inl ⟨rfl, fun q' hq' => ?_⟩
    rcases (mem_take_succ hx).1 hq' with hq' | rfl
    · exact h q' hq'
    · rcases hq with hq | ⟨hq, _⟩
      · exact hq
      · omega
  · refine .inr ⟨q0, rfl, h1, h2, fun q' hq' hne => ?_⟩
    rcases (mem_take_succ hx).1 hq' with hq' | rfl
    · exact h3 q' hq' hne
    · omega
theorem BestAt.take {acc : List Int} {sz : List Nat} {k : Nat} {b : Int} {q : Nat} (h : BestAt acc sz k b) (hx : acc[k]? = some (q : Int)) (hq : szOf sz (q : Int) ≠ 0) (hb : b < 0 ∨ szOf sz (q : Int) < szOf sz b) : BestAt acc sz (k + 1) (q : Int) := by
  refine .inr ⟨q, rfl, List.mem_of_getElem? hx, hq, fun q' hq' hne => ?_⟩
  rcases (mem_take_succ hx).1 hq' with hq' | rfl
  · rcases h with ⟨rfl, h⟩ | ⟨q0, rfl, h1, h2, h3⟩
    · exact absurd (h q' hq') hne
    · have := h3 q' hq' hne
      omega
  · exact Nat.le_refl _

theorem none_acc {a : TA} {L S cap : Nat} (hF : a.Fits L S) {sz : List Nat} (hX : SzFix a cap S sz) (h : ∀ q ∈ a.accept, szOf sz q = 0) (t : Tr) : a.lang t = false := by
  cases hl : a.lang t with
  | false => rfl
  | true =>
    obtain ⟨k, hk, ht⟩ := (lang_iff hF t).1 hl
    exact absurd (h _ hk) (hX.least ht).1
theorem best_least {a : TA} {L S cap : Nat} (hF : a.Fits L S) {sz : List Nat} (hX : SzFix a cap S sz) {b : Int} (h : ∀ q ∈ a.accept, szOf sz q ≠ 0 → szOf sz b ≤ szOf sz q) {t : Tr} (hl : a.lang t = true) : szOf sz b ≤ t.nodes := by
  obtain ⟨k, hk, ht⟩ := (lang_iff hF t).1 hl
  have h1 := hX.least ht
  have := h _ hk h1.1
  omega

set_option maxHeartbeats 8000000 in
set_option maxRecDepth 100000 in
theorem witness_any {v : Value} {a : TA} {w : World} (h : IsTA w w.heap.size v a) :
    Calls Try.prog 30 #[v] w (Ret fun r w' => Below w.heap.size w w' ∧ WitR w' w.heap.size a r) := by
  obtain ⟨A1, c1, A2, c2, A3, c3, rfl, h1, h2, h3⟩ := h
  obtain ⟨w1, hw1, hb1, hB, hk1⟩ := box_blk w #[.int .i64 a.letters, .int .i64 a.states, .slice A1 a.accept.length c1, .slice A2 a.leaves.length c2, .slice A3 a.branches.length c3] 26
  have hcb := hB.cell
  have hsz := hb1.size
  have hT : IsTA w1 w1.heap.size (.agg #[.int .i64 a.letters, .int .i64 a.states, .slice A1 a.accept.length c1, .slice A2 a.leaves.length c2, .slice A3 a.branches.length c3]) a :=
    ⟨A1, c1, A2, c2, A3, c3, rfl, (h1.below hb1).mono hsz, (h2.below hb1).mono hsz, (h3.below hb1).mono hsz⟩
  have hHB := hide hB
  have hHT := hide hT
  have hn1 := h1.1
  clear hT
  cases hv : a.valid
  · have hV := hide hv
    clear hv
    go_enter Try.func30, Try.ntmps30
    go_wp2_with (go_at_call 18; refine (validate_any _ _ _ hHT.out).mono ?_; rintro e w' ⟨rfl, hb⟩; rw [hV.out]; simp only [errno]; have hb2 := hide hb; clear hb)
    exact bodyPost_ret (v := .tuple #[.slice none 0 0, .slice none 0 0, .bool false, .int .i64 1]) (by simp [results, Try.results30, go_sem]) rfl ⟨hb1.trans (hb2.out.mono hsz), .inl ⟨hV.out, rfl⟩⟩
  · have hV := hide hv
    have hF := hide (TA.fits hv)
    clear hv
    have hACC := hide hF.out.acc
    go_enter Try.func30, Try.ntmps30
    go_wp2_with (first
      | (go_at_call 18; refine (validate_any _ _ _ hHT.out).mono ?_; rintro e w2 ⟨rfl, hb⟩; rw [hV.out]; simp only [errno]; have hb2 := hide hb; have hcb2 := (hB.kept (Kept.of_below hb (fun _ => False)) id).cell; have hT2 := hide (hHT.out.keep (fun _ hp => hb.cell hp) hb.size); clear hb)
      | (go_at_call 57; refine Calls.ret (grow_any hT2.out hF.out) ?_; rintro r w3 ⟨hb3, w0, g3, gs, gl, gf, sz, lf, fr, rfl, hw0, hG, hI, hX⟩
         have hb33 := hide hb3
         have hsz2 := hb2.out.size
         have hb13 := hb2.out.trans (hb3.mono hsz2)
         have hGG := hide hG
         have hII := hide hI
         have hXX := hide hX
         obtain ⟨w4, hw4, hb4, hB4, hk4⟩ := box_blk w3 #[.slice (some ⟨gs, 0, none⟩) a.states.toNat a.states.toNat, .slice (some ⟨gl, 0, none⟩) a.states.toNat a.states.toNat, .slice (some ⟨gf, 0, none⟩) a.states.toNat a.states.toNat] 75
         have hG4 := hide (hG.keep0 hk4)
         have hsz3 := hb3.size
         have hcb4 := (hB.kept (Kept.of_below (hb13.trans (hb4.mono (by omega))) (fun _ => False)) id).cell
         have hHB4 := hide hB4
         have hb44 := hide hb4
         clear hG hI hX hcb2 hb3 hb4 hk4 hB4))
    have hd4 := hHB4.out.cell
    go_loopw [8, 21] (fun bb ii wr => ∃ (k : Nat) (b : Int), ii = .int .i64 (k : Int) ∧ bb = .int .i64 b ∧ k ≤ a.accept.length ∧ BestAt a.accept sz k b ∧ Below w4.heap.size w4 wr) (fun _ ii _ => a.accept.length - (intOf ii).toNat)
    case atStart => exact ⟨0, -1, rfl, rfl, Nat.zero_le _, BestAt.start _ _, Below.refl _ _⟩
    case round =>
      obtain ⟨k, b, rfl, rfl, hk, hbest, hbel⟩ := hrel
      have hBr := hHB4.out.kept (Kept.of_below hbel (fun _ => False)) id
      have hGr := hG4.out.keep0 (Kept.of_below hbel (fun _ => False))
      have hdr := hBr.cell
      have hBEST := hide hbest
      have hGGr := hide hGr
      clear hbest hd4
      have hsz4 := hb44.out.size
      have hsz33 := hb33.out.size
      by_cases hlt : k < a.accept.length
      · obtain ⟨bq, off, x, rfl, hbk, hx, hc⟩ := h1.at hlt
        obtain ⟨q, rfl, hqS⟩ := hACC.out x (List.mem_of_getElem? hx)
        have hc0 := (hbel.cell (by show bq < _; have := hsz2; omega)).trans ((hb44.out.cell (by show bq < _; omega)).trans ((hb13.cell (by show bq < _; omega)).trans ((hb1.cell (by exact hbk)).trans (hc 0 (by omega)))))
        simp only [Nat.mul_one, Nat.add_zero, encI] at hc0
        obtain ⟨n, hn⟩ := get_lt (l := sz) (i := q) (by rw [hII.out.len]; exact hqS)
        have hcn := hGr.cs hn
        have hS64 := hF.out.S64
        have hE := hide (szOf_get hn)
        have hX := hide hx
        have hst : Below w4.heap.size w4 wr.drew := hbel.trans ((drew_below wr).mono hbel.size)
        have hST := hide hst
        have hII2 := hII
        clear hx hc hn hGr hst
        by_cases hn0 : n = 0
        · have hz : ¬ ((0 : Int) < (n : Int)) := by omega
          go_wp2_with fail
          refine Reg.region_plain [0, 1, 0, 7, 15, 31, 63, 127, 255, 511, 1023, 2047, 1023, 8191, 16383, 1023, 33791, 1023, 230399, 492543, 1048575, 2097151, 4194303] (by kernel_rfl) (by repeat (first | exact Reg.NoQ.body (fun _ _ h => h) (fun _ h => h) | refine Reg.NoQ.then ?_ | refine Reg.NoQ.inBlock ?_)) ?_
          go_wp2_with fail
          exact ⟨⟨k + 1, b, by go_num, rfl, by omega, hBEST.out.keep hX.out (.inl (by rw [hE.out]; exact hn0)), hST.out⟩, by simp [intOf]; omega⟩
        · have hz : ((0 : Int) < (n : Int)) := by omega
          rcases hBEST.out with ⟨rfl, hb0⟩ | ⟨q0, rfl, hb1', hb2', hb3'⟩
          · have hbb := hide hb0
            clear hb0
            go_wp2_with fail
            refine Reg.region_plain [0, 1, 0, 7, 15, 31, 63, 127, 255, 511, 1023, 2047, 1023, 8191, 16383, 1023, 33791, 1023, 230399, 492543, 1048575, 2097151, 4194303] (by kernel_rfl) (by repeat (first | exact Reg.NoQ.body (fun _ _ h => h) (fun _ h => h) | refine Reg.NoQ.then ?_ | refine Reg.NoQ.inBlock ?_)) ?_
            go_wp2_with fail
            exact ⟨⟨k + 1, _, by go_num, rfl, by omega, hBEST.out.take hX.out (by rw [hE.out]; exact hn0) (.inl (by omega)), hST.out⟩, by simp [intOf]; omega⟩
          · obtain ⟨q1, hq1, hq1S⟩ := hACC.out _ hb1'
            obtain rfl : q0 = q1 := by omega
            obtain ⟨m, hm⟩ := get_lt (l := sz) (i := q0) (by rw [hII.out.len]; exact hq1S)
            have hcm := hGGr.out.cs hm
            have hE2 := hide (szOf_get hm)
            have hb00 : ¬ ((q0 : Int) < 0) := by omega
            clear hb1' hb2' hb3' hq1 hm
            by_cases hnm : n < m
            · have hnm' : (n : Int) < (m : Int) := by omega
              go_wp2_with fail
              refine Reg.region_plain [0, 1, 0, 7, 15, 31, 63, 127, 255, 511, 1023, 2047, 1023, 8191, 16383, 1023, 33791, 1023, 230399, 492543, 1048575, 2097151, 4194303] (by kernel_rfl) (by repeat (first | exact Reg.NoQ.body (fun _ _ h => h) (fun _ h => h) | refine Reg.NoQ.then ?_ | refine Reg.NoQ.inBlock ?_)) ?_
              go_wp2_with fail
              exact ⟨⟨k + 1, _, by go_num, rfl, by omega, hBEST.out.take hX.out (by rw [hE.out]; exact hn0) (.inr (by rw [hE.out, hE2.out]; exact hnm)), hST.out⟩, by simp [intOf]; omega⟩
            · have hnm' : ¬ ((n : Int) < (m : Int)) := by omega
              go_wp2_with fail
              refine Reg.region_plain [0, 1, 0, 7, 15, 31, 63, 127, 255, 511, 1023, 2047, 1023, 8191, 16383, 1023, 33791, 1023, 230399, 492543, 1048575, 2097151, 4194303] (by kernel_rfl) (by repeat (first | exact Reg.NoQ.body (fun _ _ h => h) (fun _ h => h) | refine Reg.NoQ.then ?_ | refine Reg.NoQ.inBlock ?_)) ?_
              go_wp2_with fail
              exact ⟨⟨k + 1, _, by go_num, rfl, by omega, hBEST.out.keep hX.out (.inr ⟨by omega, by rw [hE.out, hE2.out]; omega⟩), hST.out⟩, by simp [intOf]; omega⟩
      · have hbelF := hide (((hb1.trans (hb13.mono hsz)).trans (hb44.out.mono (by omega))).trans (hbel.mono (by omega)))
        rcases hBEST.out with ⟨rfl, hb0⟩ | ⟨q0, rfl, hb1', hb2', hb3'⟩
        · have hno : ∀ t, a.lang t = false := none_acc hF.out hXX.out fun q hq => hb0 q (by rw [List.take_of_length_le (by omega)]; exact hq)
          have hNO := hide hno
          clear hb0 hno
          go_wp2_with fail
          exact bodyPost_ret (v := .tuple #[.slice none 0 0, .slice none 0 0, .bool false, .int .i64 0]) (by simp [results, Try.results30, go_sem]) rfl ⟨hbelF.out, .inr (.inl ⟨hV.out, hNO.out, rfl⟩)⟩
        · obtain ⟨q1, hq1, hq1S⟩ := hACC.out _ hb1'
          obtain rfl : q0 = q1 := by omega
          obtain ⟨m, hm⟩ := get_lt (l := sz) (i := q0) (by rw [hII.out.len]; exact hq1S)
          have hcm := hGGr.out.cs hm
          have hS64 := hF.out.S64
          have em := szOf_get hm
          have hE2 := hide em
          have hb00 : ¬ ((q0 : Int) < 0) := by omega
          have hleast : ∀ t, a.lang t = true → m ≤ t.nodes := fun t ht => by
            rw [← em]
            exact best_least hF.out hXX.out (fun q hq hne => hb3' q (by rw [List.take_of_length_le (by omega)]; exact hq) hne) ht
          have hLEAST := hide hleast
          rw [em] at hb2'
          have hmem := hide hb1'
          have hne := hide hb2'
          clear hb1' hb2' hb3' hq1 hm em hleast
          by_cases hbig : 4095 < m
          · have hbig' : (4095 : Int) < (m : Int) := by omega
            have hBIG := hide hbig
            clear hbig
            have hex : ∃ t, a.lang t = true := by
              obtain ⟨_, t, ht, -⟩ := hXX.out.tree (q := q0) (by rw [hE2.out]; exact hne.out)
              exact ⟨t, (lang_iff hF.out t).2 ⟨q0, hmem.out, ht⟩⟩
            have hEX := hide hex
            clear hex
            go_wp2_with fail
            exact bodyPost_ret (v := .tuple #[.slice none 0 0, .slice none 0 0, .bool false, .int .i64 4]) (by simp [results, Try.results30, go_sem]) rfl ⟨hbelF.out, .inr (.inr (.inl ⟨hV.out, hEX.out, fun t ht => by have := hLEAST.out t ht; have := hBIG.out; omega, rfl⟩))⟩
          · have hbig' : ¬ ((4095 : Int) < (m : Int)) := by omega
            have hSM := hide hbig
            obtain ⟨t, hwr, hhas, hnod⟩ := wr_of hF.out hII.out.from_ hXX.out m q0 hE2.out hne.out (by unfold cap40; omega)
            have hlang : a.lang t = true := (lang_iff hF.out t).2 ⟨q0, hmem.out, hhas⟩
            have hok := Has.ok hF.out hhas
            have hWR := hide hwr
            have hLL := hide hlang
            have hOK := hide hok
            have hND := hide hnod
            have hst : WrS wr.heap.size wr wr (.slice none 0 0) (.slice none 0 0) (.slice none 0 0) 0 [] (.slice none 0 0) 0 [] := WrS.start own_nil own_nil (fun k hk => by simp [Value.ownBlock] at hk) (Nat.le_refl _)
            have hSTW := hide hst
            clear hwr hlang hok hnod hst hbig
            go_wp2_with (go_at_call 58; refine Calls.ret (write_any hII.out.lenl hGGr.out.bl.lt hGGr.out.bf.lt hWR.out wr (.slice none 0 0) (.slice none 0 0) 0 0 [] [] hSTW.out hGGr.out.bl hGGr.out.bf (by have := hND.out; have := hSM.out; omega) (by have := hND.out; have := hSM.out; omega)) ?_; rintro r5 w5 ⟨s1, s2, rfl, hW5⟩; have hW55 := hide hW5; clear hW5)
            have hW := hW55.out
            have hbelow : Below wr.heap.size wr w5 := hW.kept.below (Nat.le_refl _) (fun b hb e => by rcases e with e | e <;> simp [Value.ownBlock] at e)
            have hwz := hbelF.out.size
            refine bodyPost_ret (v := .tuple #[s1, s2, .bool true, .int .i64 0]) (by simp [results, Try.results30, go_sem]) rfl ⟨hbelF.out.trans (hbelow.mono hwz), .inr (.inr (.inr ⟨hV.out, t, s1, s2, rfl, hLL.out, hOK.out, ?_, fun t' ht' => ?_, ?_, ?_⟩))⟩
            · rw [hND.out]; have := hSM.out; omega
            · rw [hND.out]; exact hLEAST.out t' ht'
            · have h1 := hW.r1
              rw [Nat.zero_add, List.nil_append] at h1
              exact own_weak h1 hwz
            · have h2 := hW.r2
              rw [Nat.zero_add, List.nil_append] at h2
              exact own_weak h2 hwz
end Go.Proofs.Ytnimlcbgeiajiaa

namespace Go.Proofs.Ytnimlcbgeiajiaa
open Go.RowKit

def inC (n lo hi : Int) : Bool := decide (lo ≤ n) && decide (n ≤ hi)

theorem inR_inC (n lo hi : Int) : inR n lo hi = inC n lo (hi - 1) := by
  unfold inR inC; congr 1; exact decide_eq_decide.2 (by omega)

set_option maxHeartbeats 400000 in
theorem within_any (n lo hi : Int) (w : World) : Calls Try.prog 45 #[.int .i64 n, .int .i64 lo, .int .i64 hi] w fun e w' => e = .returned (.bool (inC n lo hi)) ∧ w = w' := by
  by_cases h : lo ≤ n
  all_goals
    go_enter Try.func45, Try.ntmps45
    go_wp2
    go_ret
    exact ⟨by simp [inC]; omega, rfl⟩

set_option maxHeartbeats 4000000 in
set_option maxRecDepth 100000 in
theorem refValidate_head (v : Value) (a : TA) (w : World) (h : IsTA w w.heap.size v a) (hL : 1 ≤ a.letters ∧ a.letters ≤ 8 ∧ 0 ≤ a.states ∧ a.states ≤ 64) :
    Calls Try.prog 19 #[v] w fun e w' =>
      e = .returned (.int .i64 (errno a.valid)) ∧ Below w.heap.size w w' := by
  obtain ⟨A1, c1, A2, c2, A3, c3, rfl, h1, h2, h3⟩ := h
  have HH : Hid (a.head = true) := by show a.head = true; simp [TA.head]; omega
  obtain ⟨L, S, acc, lv, br⟩ := a
  dsimp only at *
  have hn1 := h1.1
  have hn2 := h2.1
  have hn3 := h3.1
  have hcL : inC L 1 8 = true := by simp [inC]; omega
  have hcS : inC S 0 64 = true := by simp [inC]; omega
  have HcL := hide hcL
  have HcS := hide hcS
  clear hcL hcS
  go_enter Try.func19, Try.ntmps19
  go_wp2_with (go_at_call 45; refine (within_any _ _ _ _).mono ?_; rintro e w' ⟨rfl, rfl⟩; (first | rw [HcL.out] | rw [HcS.out]))
  obtain ⟨w1, hw1, hb1, hg1, hB1⟩ := box_facts w #[.int .i64 L, .int .i64 S, .slice A1 acc.length c1, .slice A2 lv.length c2, .slice A3 br.length c3] 26
  rw [hw1]
  clear hw1
  go_loopw [3] (fun i wr => ∃ k : Nat, k ≤ acc.length ∧ i = .int .i64 k ∧ (acc.take k).all (inR · 0 S) ∧ Below w1.heap.size w1 wr) (fun i _ => acc.length - (intOf i).toNat)
  case atStart => exact ⟨0, Nat.zero_le _, rfl, by simp, Below.refl _ _⟩
  case round =>
    obtain ⟨k, hk, rfl, hall, hbr⟩ := hrel
    obtain ⟨hg2, hB2⟩ := box_later hbr hg1 hB1
    by_cases hlt : k < acc.length
    · obtain ⟨b, off, x, rfl, hb, hx, hc⟩ := h1.at hlt
      have hc0 := (hbr.cell (by show b < _; omega)).trans ((hb1.cell (by exact hb)).trans (hc 0 (by omega)))
      simp only [Nat.mul_one, Nat.add_zero, encI] at hc0
      clear hc
      have HX := hide hx
      clear hx
      go_wp2_with fail
      refine Reg.region_ints' [0, 1, 0, 7, 15, 0, 32, 96, 255, 511] (by kernel_rfl) (by repeat (first | exact Reg.NoQ.body (fun _ _ h => Ending.noConfusion h.1) (fun _ h => Ending.noConfusion h.1) | refine Reg.NoQ.then ?_ | refine Reg.NoQ.inBlock ?_)) ?_
      intro Qf hQf
      go_wp2_with (go_at_call 45; refine (within_any _ _ _ _).mono ?_; rintro e w' ⟨rfl, rfl⟩)
      refine ⟨rfl, ?_⟩
      go_wp2
      · go_ret
        exact ⟨by rw [TA.valid]; dsimp only; rw [all_false HX.out (by rw [inR_inC]; simp_all)]; simp [errno], (hb1.trans (hbr.mono (by omega))).drew⟩
      · go_roundw
        case rel => exact ⟨k + 1, by omega, by go_num, all_take_succ HX.out hall (by rw [inR_inC]; simp_all), hbr.drew⟩
        case measure => simp [intOf]; omega
    · have HA := hide (all_done (by omega) hall)
      clear hall
      go_wp2_with fail
      obtain ⟨wa, rfl⟩ : ∃ wa : World, wa = wr := ⟨_, rfl⟩
      go_loopw [4] (fun i wr2 => ∃ k : Nat, k ≤ lv.length ∧ i = .int .i64 k ∧ (lv.take k).all (okLeaf L S) ∧ Below wa.heap.size wa wr2) (fun i _ => lv.length - (intOf i).toNat)
      case atStart => exact ⟨0, Nat.zero_le _, rfl, by simp, Below.refl _ _⟩
      case round =>
        obtain ⟨k, hk, rfl, hall, hbr2⟩ := hrel
        obtain ⟨hg3, hB3⟩ := box_later hbr2 hg2 hB2
        by_cases hlt : k < lv.length
        · obtain ⟨b, off, x, rfl, hb, hx, hc⟩ := h2.at hlt
          have hcc := fun j hj => (hbr2.cell (by show b < _; omega)).trans ((hbr.cell (by show b < _; omega)).trans ((hb1.cell (by exact hb)).trans (hc j hj)))
          have hc0 := hcc 0 (by omega)
          have hc1 := hcc 1 (by omega)
          simp only [Nat.add_zero, encL] at hc0 hc1
          clear hc hcc
          have HX := hide hx
          clear hx
          go_wp2_with fail
          refine Reg.region_ints' [0, 1, 0, 7, 15, 31, 0, 64, 192, 511, 1023, 2047, 4095, 8191, 4095, 32767, 65535, 131071, 4095, 266239, 790527, 2097151, 4194303, 8388607] (by kernel_rfl) (by repeat (first | exact Reg.NoQ.body (fun _ _ h => Ending.noConfusion h.1) (fun _ h => Ending.noConfusion h.1) | refine Reg.NoQ.then ?_ | refine Reg.NoQ.inBlock ?_)) ?_
          intro Qf hQf
          go_wp2_with (go_at_call 45; refine (within_any _ _ _ _).mono ?_; rintro e w' ⟨rfl, rfl⟩)
          all_goals refine ⟨rfl, ?_⟩
          all_goals go_wp2
          all_goals try rw [Bool.not_eq_true] at *
          · go_ret
            exact ⟨by rw [TA.valid]; dsimp only; rw [all_false HX.out (by rw [okLeaf, inR_inC, inR_inC]; simp_all)]; simp [errno], ((hb1.trans (hbr.mono (by omega))).trans (hbr2.mono (by omega))).drew⟩
          · go_roundw
            case rel => exact ⟨k + 1, by omega, by go_num, all_take_succ HX.out hall (by rw [okLeaf, inR_inC, inR_inC]; simp_all), hbr2.drew⟩
            case measure => simp [intOf]; omega
          · go_ret
            exact ⟨by rw [TA.valid]; dsimp only; rw [all_false HX.out (by rw [okLeaf, inR_inC, inR_inC]; simp_all)]; simp [errno], ((hb1.trans (hbr.mono (by omega))).trans (hbr2.mono (by omega))).drew⟩
        · have HA2 := hide (all_done (by omega) hall)
          clear hall
          go_wp2_with fail
          obtain ⟨wb, rfl⟩ : ∃ wb : World, wb = wr := ⟨_, rfl⟩
          go_loopw [5] (fun i wr2 => ∃ k : Nat, k ≤ br.length ∧ i = .int .i64 k ∧ (br.take k).all (okBranch L S) ∧ Below wb.heap.size wb wr2) (fun i _ => br.length - (intOf i).toNat)
          case atStart => exact ⟨0, Nat.zero_le _, rfl, by simp, Below.refl _ _⟩
          case round =>
            obtain ⟨k, hk, rfl, hall, hbr3⟩ := hrel
            obtain ⟨hg4, hB4⟩ := box_later hbr3 hg3 hB3
            by_cases hlt : k < br.length
            · obtain ⟨b, off, x, rfl, hb, hx, hc⟩ := h3.at hlt
              have hcc := fun j hj => (hbr3.cell (by show b < _; omega)).trans ((hbr2.cell (by show b < _; omega)).trans ((hbr.cell (by show b < _; omega)).trans ((hb1.cell (by exact hb)).trans (hc j hj))))
              have hc0 := hcc 0 (by omega)
              have hc1 := hcc 1 (by omega)
              have hc2 := hcc 2 (by omega)
              have hc3 := hcc 3 (by omega)
              simp only [Nat.add_zero, encBr] at hc0 hc1 hc2 hc3
              clear hc hcc
              have HX := hide hx
              clear hx
              go_wp2_with (go_at_call 45; refine (within_any _ _ _ _).mono ?_; rintro e w' ⟨rfl, rfl⟩)
              all_goals try rw [Bool.not_eq_true] at *
              · go_ret
                exact ⟨by rw [TA.valid]; dsimp only; rw [all_false HX.out (by rw [okBranch, inR_inC, inR_inC, inR_inC, inR_inC]; simp_all)]; simp [errno], (((hb1.trans (hbr.mono (by omega))).trans (hbr2.mono (by omega))).trans (hbr3.mono (by omega))).alloc (by omega) _⟩
              · go_roundw
                case rel => exact ⟨k + 1, by omega, by go_num, all_take_succ HX.out hall (by rw [okBranch, inR_inC, inR_inC, inR_inC, inR_inC]; simp_all), hbr3.alloc hbr3.size _⟩
                case measure => simp [intOf]; omega
              all_goals
                go_ret
                exact ⟨by rw [TA.valid]; dsimp only; rw [all_false HX.out (by rw [okBranch, inR_inC, inR_inC, inR_inC, inR_inC]; simp_all)]; simp [errno], (((hb1.trans (hbr.mono (by omega))).trans (hbr2.mono (by omega))).trans (hbr3.mono (by omega))).alloc (by omega) _⟩
            · have HA3 := hide (all_done (by omega) hall)
              clear hall
              go_wp2_with fail
              go_ret
              exact ⟨by rw [TA.valid, HH.out]; dsimp only; rw [HA.out, HA2.out, HA3.out]; rfl, ((hb1.trans (hbr.mono (by omega))).trans (hbr2.mono (by omega))).trans (hbr3.mono (by omega))⟩

set_option maxHeartbeats 1000000 in
set_option maxRecDepth 100000 in
theorem refValidate_any (v : Value) (a : TA) (w : World) (h : IsTA w w.heap.size v a) :
    Calls Try.prog 19 #[v] w fun e w' => e = .returned (.int .i64 (errno a.valid)) ∧ Below w.heap.size w w' := by
  by_cases hh : a.head = true
  · refine refValidate_head v a w h ?_
    simp [TA.head] at hh
    omega
  · obtain ⟨A1, c1, A2, c2, A3, c3, rfl, h1, h2, h3⟩ := h
    have hE : errno a.valid = 1 := by simp [TA.valid, hh, errno]
    rw [hE]
    have hcase : inC a.letters 1 8 = false ∨ (inC a.letters 1 8 = true ∧ inC a.states 0 64 = false) := by
      by_cases h1 : inC a.letters 1 8 = true
      · refine .inr ⟨h1, ?_⟩
        cases h2 : inC a.states 0 64
        · rfl
        · simp [inC] at h1 h2
          simp [TA.head] at hh
          omega
      · exact .inl (by simpa using h1)
    clear hh hE
    generalize a.letters = L at *
    generalize a.states = S at *
    rcases hcase with hc | ⟨hc, hc'⟩
    · have HC := hide hc
      clear hc
      go_enter Try.func19, Try.ntmps19
      go_wp2_with (go_at_call 45; refine (within_any _ _ _ _).mono ?_; rintro e w' ⟨rfl, rfl⟩; rw [HC.out])
      go_ret
      exact ⟨rfl, (Below.refl _ _).alloc (Nat.le_refl _) _⟩
    · have HC := hide hc
      have HC' := hide hc'
      clear hc hc'
      go_enter Try.func19, Try.ntmps19
      go_wp2_with (go_at_call 45; refine (within_any _ _ _ _).mono ?_; rintro e w' ⟨rfl, rfl⟩; (first | rw [HC.out] | rw [HC'.out]))
      go_ret
      exact ⟨rfl, (Below.refl _ _).alloc (Nat.le_refl _) _⟩
end Go.Proofs.Ytnimlcbgeiajiaa

namespace Go.Proofs.Ytnimlcbgeiajiaa
open Go.RowKit

def shGo : Int → List Int → Bool
  | o, [] => o == 0
  | o, c :: sh => o != 0 && (c == 0 || c == 2) && shGo (o + (c - 1)) sh
theorem vt_sh {L : Int} : ∀ (sh lb : List Int) (o : Int), lb.length = sh.length → vtGo L o sh lb = (shGo o sh && lb.all (inC · 0 (L - 1)))
  | [], [], o, _ => by simp [vtGo, shGo]
  | [], _ :: _, _, h => by simp at h
  | _ :: _, [], _, h => by simp at h
  | c :: sh, l :: lb, o, h => by
    have ih := vt_sh (L := L) sh lb (o + c - 1) (by simpa using h)
    have e : decide (l < L) = decide (l ≤ L - 1) := decide_eq_decide.2 (by omega)
    simp only [vtGo, shGo, List.all_cons, ih, show o + (c - 1) = o + c - 1 from by omega, e, inC]
    cases (o != 0) <;> cases (c == 0 || c == 2) <;> cases decide (0 ≤ l) <;> cases decide (l ≤ L - 1) <;> cases (shGo (o + c - 1) sh) <;> rfl
theorem shGo_step {o c : Int} {sh : List Int} {i : Nat} (hc : sh[i]? = some c) : shGo o (sh.drop i) = (o != 0 && (c == 0 || c == 2) && shGo (o + (c - 1)) (sh.drop (i + 1))) := by
  have h1 : sh.drop i = c :: sh.drop (i + 1) := by
    have := lt_of_get hc
    rw [List.drop_eq_getElem_cons this]
    rw [List.getElem?_eq_getElem this] at hc
    rw [Option.some.inj hc]
  rw [h1]
  rfl

set_option maxHeartbeats 4000000 in
set_option maxRecDepth 100000 in
theorem isShape_any {w : World} {B1 c1 : Nat} {A1 : Option Addr} {sh : List Int} (h1 : Sl w B1 1 encI A1 sh) (hs2 : sh.length ≤ 4095) :
    Calls Try.prog 80 #[.slice A1 sh.length c1] w fun e w' => e = .returned (.bool (shGo 1 sh)) ∧ w = w' := by
  go_enter Try.func80, Try.ntmps80
  go_wp2
  go_loop [3, 4] (fun oo ii => ∃ (i : Nat) (o : Int), ii = .int .i64 (i : Int) ∧ i ≤ sh.length ∧ oo = .int .i64 o ∧ 0 ≤ o ∧ o ≤ i + 1 ∧ Hid (shGo 1 sh = shGo o (sh.drop i))) (fun _ ii => sh.length - (intOf ii).toNat)
  case atStart => exact ⟨0, 1, rfl, Nat.zero_le _, rfl, by omega, by omega, rfl⟩
  case round =>
    obtain ⟨i, o, rfl, hi, rfl, ho0, ho1, hv⟩ := hrel
    by_cases hlt : i < sh.length
    · obtain ⟨b1, o1, c, rfl, hb1, hc, hcc⟩ := h1.at hlt
      have hc0 := hcc 0 (by omega)
      simp only [Nat.mul_one, Nat.add_zero, encI] at hc0
      have hst := hide (shGo_step (o := o) hc)
      clear hc hcc
      by_cases h0 : o = 0
      · subst h0
        go_wp2_with fail
        go_ret
        exact ⟨by rw [hv.out, hst.out]; rfl, rfl⟩
      · have h0' : (o == 0) = false := by simpa using h0
        by_cases hc2 : c = 0 ∨ c = 2
        · have h0n : (o != 0) = true := by simpa using h0
          rcases hc2 with rfl | rfl
          · have hfin : Hid (shGo 1 sh = shGo (o + -1) (sh.drop (i + 1))) := by
              show _ = _
              rw [hv.out, hst.out, h0n]
              rfl
            go_wp2_with fail
            exact ⟨⟨i + 1, o + -1, by simp, by omega, rfl, by omega, by omega, hfin.out⟩, by simp [intOf]; omega⟩
          · have hfin : Hid (shGo 1 sh = shGo (o + 1) (sh.drop (i + 1))) := by
              show _ = _
              rw [hv.out, hst.out, h0n]
              rfl
            go_wp2_with fail
            exact ⟨⟨i + 1, o + 1, by simp, by omega, rfl, by omega, by omega, hfin.out⟩, by simp [intOf]; omega⟩
        · have hn0 : (c != 0) = true := by simp; omega
          have hn2 : (c != 2) = true := by simp; omega
          have hfin : Hid (shGo 1 sh = false) := by
            show _ = _
            rw [hv.out, hst.out]
            have e1 : (c == 0) = false := by simp; omega
            have e2 : (c == 2) = false := by simp; omega
            simp [e1, e2]
          go_wp2_with fail
          go_ret
          exact ⟨by rw [hfin.out]; rfl, rfl⟩
    · have hfin : Hid (shGo 1 sh = (o == 0)) := by
        show _ = _
        rw [hv.out, List.drop_eq_nil_of_le (by omega)]
        rfl
      go_wp2_with fail
      go_ret
      exact ⟨by rw [hfin.out]; rfl, rfl⟩

set_option maxHeartbeats 4000000 in
set_option maxRecDepth 100000 in
theorem refValidTree_any {w : World} {B1 B2 c1 c2 : Nat} {A1 A2 : Option Addr} {L : Int} {sh lb : List Int} (h1 : Sl w B1 1 encI A1 sh) (h2 : Sl w B2 1 encI A2 lb) (hL : 1 ≤ L ∧ L ≤ 8) :
    Calls Try.prog 55 #[.int .i64 L, .slice A1 sh.length c1, .slice A2 lb.length c2] w fun e w' => e = .returned (.bool (validT L sh lb)) ∧ w = w' := by
  have hn1 := h1.1
  have hn2 := h2.1
  obtain ⟨hL1, hL8⟩ := hL
  cases hw : inC sh.length 1 4095
  · have hv : Hid (validT L sh lb = false) := by
      show _ = _
      simp [inC] at hw
      simp [validT]
      omega
    have hW := hide hw
    clear hw
    go_enter Try.func55, Try.ntmps55
    go_wp2_with (go_at_call 45; refine (within_any _ _ _ _).mono ?_; rintro e w' ⟨rfl, rfl⟩; rw [hW.out])
    go_ret
    exact ⟨by rw [hv.out]; rfl, rfl⟩
  · have hs2 : sh.length ≤ 4095 ∧ 1 ≤ sh.length := by simp [inC] at hw; omega
    have hW := hide hw
    clear hw
    by_cases hl : lb.length = sh.length
    · have hv0 : Hid (validT L sh lb = (shGo 1 sh && lb.all (inC · 0 (L - 1)))) := by
        show _ = _
        rw [← vt_sh sh lb 1 hl]
        simp [validT, hl, hs2.1, hs2.2]
      have hLl := hide hl
      rw [hl]
      cases hsh : shGo 1 sh
      · have hS := hide hsh
        clear hsh hl
        go_enter Try.func55, Try.ntmps55
        go_wp2_with (first | (go_at_call 45; refine (within_any _ _ _ _).mono ?_; rintro e w' ⟨rfl, rfl⟩; rw [hW.out]) | (go_at_call 80; refine (isShape_any h1 hs2.1).mono ?_; rintro e w' ⟨rfl, rfl⟩; rw [hS.out]))
        go_ret
        exact ⟨by rw [hv0.out, hS.out]; rfl, rfl⟩
      · have hS := hide hsh
        clear hsh hl
        go_enter Try.func55, Try.ntmps55
        go_wp2_with (first | (go_at_call 45; refine (within_any _ _ _ _).mono ?_; rintro e w' ⟨rfl, rfl⟩; rw [hW.out]) | (go_at_call 80; refine (isShape_any h1 hs2.1).mono ?_; rintro e w' ⟨rfl, rfl⟩; rw [hS.out]))
        go_loop [7] (fun ii => ∃ (i : Nat), ii = .int .i64 (i : Int) ∧ i ≤ sh.length ∧ Hid ((lb.take i).all (inC · 0 (L - 1)) = true)) (fun ii => sh.length - (intOf ii).toNat)
        case atStart => exact ⟨0, rfl, Nat.zero_le _, rfl⟩
        case round =>
          obtain ⟨i, rfl, hi, hE⟩ := hrel
          by_cases hlt : i < sh.length
          · obtain ⟨b, off, q, rfl, hbb, hx, hc⟩ := h2.at (k := i) (by rw [hLl.out]; exact hlt)
            have hc0 := hc 0 (by omega)
            simp only [Nat.mul_one, Nat.add_zero, encI] at hc0
            have hX := hide hx
            clear hx hc
            cases hq : inC q 0 (L - 1)
            · have hQ := hide hq
              clear hq
              go_wp2_with (go_at_call 45; refine (within_any _ _ _ _).mono ?_; rintro e w' ⟨rfl, rfl⟩; rw [hQ.out])
              go_ret
              exact ⟨by rw [hv0.out, hS.out, all_false hX.out hQ.out]; rfl, rfl⟩
            · have hQ := hide hq
              clear hq
              go_wp2_with (go_at_call 45; refine (within_any _ _ _ _).mono ?_; rintro e w' ⟨rfl, rfl⟩; rw [hQ.out])
              exact ⟨⟨i + 1, by go_num, by omega, all_take_succ hX.out hE.out hQ.out⟩, by simp [intOf]; omega⟩
          · have hA := hide (all_done (by rw [hLl.out]; omega) hE.out)
            go_wp2_with fail
            go_ret
            exact ⟨by rw [hv0.out, hS.out, hA.out]; rfl, rfl⟩
    · have hv : Hid (validT L sh lb = false) := by show _ = _; simp [validT, hl]
      have hne : ((lb.length : Int) != (sh.length : Int)) = true := by simp; omega
      clear hl
      go_enter Try.func55, Try.ntmps55
      go_wp2_with (go_at_call 45; refine (within_any _ _ _ _).mono ?_; rintro e w' ⟨rfl, rfl⟩; rw [hW.out])
      go_ret
      exact ⟨by rw [hv.out]; rfl, rfl⟩
end Go.Proofs.Ytnimlcbgeiajiaa
