/-
  Smallest trees, plainly: sizes that a fixed point of rounds has; the tree that is written; its preorder. Plain Lean.
  Operations that make memory, at any world: what they lay is known by blocks alone; the regions of a function's text as pieces of their own.
  (*builder[both]).meet: keys that are structs; the walk.
  (*builder[both]).build: the innermost loop: a row is filled.
  (*builder[both]).build: the loop over the second children.
  (*builder[both]).build: the loop over the first children.
  (*builder[both]).build: the rounds.
  (*builder[both]).build: the loop over the letters' leaves.
  (*builder[both]).build: the loop over the states' acceptance.
  (*builder[both]).build: the walk, its loops joined.
  operation.product: its closures.
  operation.product: the walk.
  Lists of automata in memory; tree.check: the walk.
  tree.pair, machine.empty, tree.Included: the walks.
-/
import Derived.Test.YtnimlcbgeiajiaaTjP4

namespace Go.Proofs.Ytnimlcbgeiajiaa
open Go.RowKit

def Tr.nodes : Tr → Nat
  | .leaf _ => 1
  | .node _ s t => 1 + s.nodes + t.nodes
def Tr.sh : Tr → List Int
  | .leaf _ => [0]
  | .node _ s t => 2 :: (s.sh ++ t.sh)
def Tr.lb : Tr → List Int
  | .leaf x => [(x : Int)]
  | .node x s t => (x : Int) :: (s.lb ++ t.lb)
theorem Tr.sh_len (t : Tr) : t.sh.length = t.nodes := by
  induction t with
  | leaf x => rfl
  | node x s t ihs iht => simp [Tr.sh, Tr.nodes, ihs, iht]; omega
theorem Tr.lb_len (t : Tr) : t.lb.length = t.nodes := by
  induction t with
  | leaf x => rfl
  | node x s t ihs iht => simp [Tr.lb, Tr.nodes, ihs, iht]; omega
theorem Tr.pos (t : Tr) : 1 ≤ t.nodes := by cases t <;> simp [Tr.nodes] <;> omega

theorem vtGo_tree {L : Int} {n : Nat} (hL : (n : Int) ≤ L) (t : Tr) : ∀ (o : Int) (sh lb : List Int), t.ok n → 1 ≤ o → vtGo L o (t.sh ++ sh) (t.lb ++ lb) = vtGo L (o - 1) sh lb := by
  induction t with
  | leaf x =>
    intro o sh lb ho h1
    have hx : x < n := ho
    have h2 : (o != 0) = true := by simp; omega
    have h3 : decide ((0 : Int) ≤ (x : Int)) = true := by simp
    have h4 : decide ((x : Int) < L) = true := by simp; omega
    show vtGo L o (0 :: sh) ((x : Int) :: lb) = _
    simp only [vtGo, h2, h3, h4]
    simp
  | node x s t ihs iht =>
    intro o sh lb ho h1
    obtain ⟨hx, hs, ht⟩ := ho
    have h2 : (o != 0) = true := by simp; omega
    have h3 : decide ((0 : Int) ≤ (x : Int)) = true := by simp
    have h4 : decide ((x : Int) < L) = true := by simp; omega
    show vtGo L o (2 :: ((s.sh ++ t.sh) ++ sh)) ((x : Int) :: ((s.lb ++ t.lb) ++ lb)) = _
    simp only [vtGo, h2, h3, h4, List.append_assoc]
    rw [ihs _ _ _ hs (by omega), iht _ _ _ ht (by omega)]
    simp
    congr 1
    omega
theorem stk_tree (t : Tr) : ∀ (sh lb : List Int), stk (t.sh ++ sh) (t.lb ++ lb) = (stk sh lb).map (t :: ·) := by
  induction t with
  | leaf x =>
    intro sh lb
    show stk (0 :: sh) ((x : Int) :: lb) = _
    simp only [stk]
    cases stk sh lb <;> simp [stkStep]
  | node x s t ihs iht =>
    intro sh lb
    show stk (2 :: ((s.sh ++ t.sh) ++ sh)) ((x : Int) :: ((s.lb ++ t.lb) ++ lb)) = _
    simp only [stk, List.append_assoc]
    rw [ihs, iht]
    cases stk sh lb <;> simp [stkStep]
theorem treeOf_tree (t : Tr) : treeOf t.sh t.lb = t := by
  have h := stk_tree t [] []
  rw [List.append_nil, List.append_nil] at h
  simp [treeOf, h, stk]
theorem validT_pre {L : Int} {n : Nat} (hL : (n : Int) ≤ L) {t : Tr} (ho : t.ok n) (hn : t.nodes ≤ 4095) : validT L t.sh t.lb = true := by
  have h := vtGo_tree hL t 1 [] [] ho (by omega)
  rw [List.append_nil, List.append_nil] at h
  have h2 := t.pos
  simp only [validT, Tr.sh_len, Tr.lb_len, h, Bool.and_eq_true, decide_eq_true_eq]
  exact ⟨⟨⟨h2, hn⟩, trivial⟩, rfl⟩
theorem validT_nodes {L : Int} : ∀ (sh lb : List Int) (o : Int), 0 ≤ o → vtGo L o sh lb = true → ∀ s, stk sh lb = some s → (s.map Tr.nodes).sum = sh.length
  | [], lb, o, _, _, s, h => by
    have : s = [] := by
      cases lb <;> simp [stk] at h <;> exact h
    subst this
    rfl
  | _ :: _, [], o, _, h, _, _ => by simp [vtGo] at h
  | c :: sh, l :: lb, o, h0, h, s, hs => by
    simp only [vtGo, Bool.and_eq_true, bne_iff_ne, Bool.or_eq_true, beq_iff_eq, decide_eq_true_eq] at h
    obtain ⟨⟨⟨⟨h1, h2⟩, h3⟩, h4⟩, h5⟩ := h
    obtain ⟨s0, e, hl, -⟩ := stk_ok sh lb (o + c - 1) (by omega) h5
    have ih := validT_nodes sh lb (o + c - 1) (by omega) h5 s0 e
    simp only [stk, e, Option.bind_some] at hs
    by_cases hc : c = 0
    · subst hc
      simp only [stkStep, if_pos] at hs
      have hs := Option.some.inj hs
      subst hs
      simp [Tr.nodes, ih]
      omega
    · match s0, hs, ih with
      | t1 :: t2 :: r, hs, ih =>
        simp only [stkStep, if_neg hc] at hs
        have hs := Option.some.inj hs
        subst hs
        simp [Tr.nodes] at ih ⊢
        omega
      | [t1], hs, _ => simp [stkStep, hc] at hs
      | [], hs, _ => simp [stkStep, hc] at hs
theorem treeOf_nodes {L : Int} {sh lb : List Int} (h : validT L sh lb = true) : (treeOf sh lb).nodes = sh.length := by
  obtain ⟨e, -, -, -, -⟩ := validT_tree h
  simp only [validT, Bool.and_eq_true] at h
  have := validT_nodes sh lb 1 (by omega) h.2 _ e
  simpa using this

/-- The tree can have the state. -/
inductive TA.Has (a : TA) : Tr → Int → Prop
  | leaf {l : Leaf} (h : l ∈ a.leaves) : TA.Has a (.leaf l.letter.toNat) l.to
  | node {b : Branch} {s t : Tr} (h : b ∈ a.branches) (hs : TA.Has a s b.first) (ht : TA.Has a t b.second) : TA.Has a (.node b.letter.toNat s t) b.to

theorem mBit_fold {D : Type} (c : D → Bool) (f : D → Int) (q : Int) (hq : 0 ≤ q) (l : List D) : ∀ m, (∀ e ∈ l, 0 ≤ f e) → mBit (l.foldl (fun m e => if c e = true then setB m (f e) else m) m) q = (mBit m q || l.any fun e => c e && decide (f e = q)) := by
  induction l with
  | nil => intro m _; simp
  | cons e l ih =>
    intro m h
    rw [List.foldl_cons, ih _ (fun e' he => h e' (List.mem_cons_of_mem _ he)), List.any_cons, ← Bool.or_assoc]
    congr 1
    cases hc : c e
    · simp
    · simp only [if_true, Bool.true_and]
      unfold setB
      rw [mBit_or, mBit_pow _ _ (h e List.mem_cons_self) hq]

structure TA.Fits (a : TA) (L S : Nat) : Prop where
  hL : a.letters = L
  hS : a.states = S
  S64 : S ≤ 64
  L8 : L ≤ 8
  lv : ∀ l ∈ a.leaves, ∃ x q : Nat, l = ⟨x, q⟩ ∧ x < L ∧ q < S
  br : ∀ b ∈ a.branches, ∃ x f g q : Nat, b = ⟨x, f, g, q⟩ ∧ x < L ∧ f < S ∧ g < S ∧ q < S
  acc : ∀ q ∈ a.accept, ∃ k : Nat, q = k ∧ k < S
theorem TA.fits {a : TA} (h : a.valid = true) : a.Fits a.letters.toNat a.states.toNat := by
  simp only [TA.valid, TA.head, Bool.and_eq_true, decide_eq_true_eq] at h
  obtain ⟨⟨⟨⟨⟨⟨h1, h2⟩, h3⟩, h4⟩, h5⟩, h6⟩, h7⟩ := h
  refine ⟨by omega, by omega, by omega, by omega, fun l hl => ?_, fun b hb => ?_, fun q hq => ?_⟩
  · have := List.all_eq_true.1 h6 l hl
    simp only [okLeaf, inR, Bool.and_eq_true, decide_eq_true_eq] at this
    obtain ⟨x, q⟩ := l
    dsimp only at this
    exact ⟨x.toNat, q.toNat, by congr 1 <;> omega, by omega, by omega⟩
  · have := List.all_eq_true.1 h7 b hb
    simp only [okBranch, inR, Bool.and_eq_true, decide_eq_true_eq] at this
    obtain ⟨x, f, g, q⟩ := b
    dsimp only at this
    exact ⟨x.toNat, f.toNat, g.toNat, q.toNat, by congr 1 <;> omega, by omega, by omega, by omega, by omega⟩
  · have := List.all_eq_true.1 h5 q hq
    simp only [inR, Bool.and_eq_true, decide_eq_true_eq] at this
    exact ⟨q.toNat, by omega, by omega⟩

theorem Has.state {a : TA} {L S : Nat} (hF : a.Fits L S) {t : Tr} {q : Int} (h : a.Has t q) : ∃ k : Nat, q = k ∧ k < S := by
  cases h with
  | leaf h => obtain ⟨x, q, rfl, _, hq⟩ := hF.lv _ h; exact ⟨q, rfl, hq⟩
  | node h _ _ => obtain ⟨x, f, g, q, rfl, _, _, _, hq⟩ := hF.br _ h; exact ⟨q, rfl, hq⟩
theorem Has.ok {a : TA} {L S : Nat} (hF : a.Fits L S) {t : Tr} {q : Int} (h : a.Has t q) : t.ok L := by
  induction h with
  | leaf h => obtain ⟨x, q, rfl, hx, hq⟩ := hF.lv _ h; exact hx
  | node h _ _ ihs iht => obtain ⟨x, f, g, q, rfl, hx, _⟩ := hF.br _ h; exact ⟨hx, ihs, iht⟩

theorem has_iff {a : TA} {L S : Nat} (hF : a.Fits L S) (t : Tr) : ∀ q : Nat, a.Has t q ↔ mBit (a.mask t) (q : Int) = true := by
  induction t with
  | leaf x =>
    intro q
    have e : a.mask (.leaf x) = leafM a.leaves x := rfl
    have e2 : leafM a.leaves x = a.leaves.foldl (fun m e => if (fun e : Leaf => decide (e.letter = (x : Int))) e = true then setB m (e.to) else m) 0 := by
      unfold leafM; simp
    rw [e, e2, mBit_fold _ (fun e : Leaf => e.to) _ (by omega) _ _ (fun e he => by obtain ⟨_, _, rfl, _⟩ := hF.lv e he; simp), mBit_zero, Bool.false_or, List.any_eq_true]
    constructor
    · intro h
      generalize hq : (q : Int) = qq at h
      generalize ht : Tr.leaf x = tt at h
      cases h with
      | leaf h =>
        rename_i l
        obtain ⟨y, k, rfl, _⟩ := hF.lv _ h
        refine ⟨_, h, ?_⟩
        injection ht with ht
        simp at ht
        subst ht
        simp
      | node _ _ _ => cases ht
    · rintro ⟨l, hl, h⟩
      simp only [Bool.and_eq_true, decide_eq_true_eq] at h
      have := TA.Has.leaf (a := a) hl
      rw [h.1, h.2] at this
      simpa using this
  | node x s t ihs iht =>
    intro q
    have e : a.mask (.node x s t) = brM (a.mask s) (a.mask t) (byL a.branches x) := rfl
    have e2 : brM (a.mask s) (a.mask t) (byL a.branches x) = a.branches.foldl (fun m e => if (fun e : Branch => decide (e.letter = (x : Int)) && mBit (a.mask s) e.first && mBit (a.mask t) e.second) e = true then setB m (e.to) else m) 0 := by
      unfold brM
      rw [brM_filter]
      congr 1
      funext m e
      simp [brMF, and_assoc]
    rw [e, e2, mBit_fold _ (fun e : Branch => e.to) _ (by omega) _ _ (fun e he => by obtain ⟨_, _, _, _, rfl, _⟩ := hF.br e he; simp), mBit_zero, Bool.false_or, List.any_eq_true]
    constructor
    · intro h
      generalize hq : (q : Int) = qq at h
      generalize ht : Tr.node x s t = tt at h
      cases h with
      | leaf h => cases ht
      | node h h1 h2 =>
        rename_i b s' t'
        injection ht with ht hs' ht'
        subst hs' ht'
        obtain ⟨y, f, g, k, rfl, _⟩ := hF.br _ h
        simp at ht
        subst ht
        refine ⟨_, h, ?_⟩
        simp only [Bool.and_eq_true, decide_eq_true_eq]
        exact ⟨⟨⟨trivial, (ihs f).1 h1⟩, (iht g).1 h2⟩, trivial⟩
    · rintro ⟨b, hb, h⟩
      obtain ⟨y, f, g, k, rfl, _⟩ := hF.br _ hb
      simp only [Bool.and_eq_true, decide_eq_true_eq] at h
      obtain ⟨⟨⟨h1, h2⟩, h3⟩, h4⟩ := h
      have hx : x = y := by omega
      have hk : q = k := by omega
      subst hx hk
      have := TA.Has.node (a := a) hb ((ihs f).2 h2) ((iht g).2 h3)
      simpa using this

theorem lang_iff {a : TA} {L S : Nat} (hF : a.Fits L S) (t : Tr) : a.lang t = true ↔ ∃ k : Nat, (k : Int) ∈ a.accept ∧ a.Has t k := by
  have e : a.lang t = a.accept.any (mBit (a.mask t)) := accS_any a _ fun q hq => by obtain ⟨k, rfl, _⟩ := hF.acc q hq; simp
  rw [e, List.any_eq_true]
  constructor
  · rintro ⟨q, hq, h⟩
    obtain ⟨k, rfl, _⟩ := hF.acc q hq
    exact ⟨k, hq, (has_iff hF t k).2 h⟩
  · rintro ⟨k, hq, h⟩
    exact ⟨_, hq, (has_iff hF t k).1 h⟩

/-! ## sizes -/
def SzSound (a : TA) (cap : Nat) (sz : List Nat) : Prop := ∀ (q n : Nat), sz[q]? = some n → n ≠ 0 → n ≤ cap ∧ ∃ t, a.Has t q ∧ min t.nodes cap ≤ n
def szOf (sz : List Nat) (q : Int) : Nat := sz[q.toNat]?.getD 0
def Stable (cap : Nat) (sz : List Nat) (b : Branch) : Prop := szOf sz b.first ≠ 0 → szOf sz b.second ≠ 0 → szOf sz b.to ≠ 0 ∧ szOf sz b.to ≤ min (1 + szOf sz b.first + szOf sz b.second) cap
structure SzFix (a : TA) (cap S : Nat) (sz : List Nat) : Prop where
  len : sz.length = S
  sound : SzSound a cap sz
  lv : ∀ l ∈ a.leaves, szOf sz l.to = 1
  br : ∀ b ∈ a.branches, Stable cap sz b
theorem szOf_get {sz : List Nat} {q n : Nat} (h : sz[q]? = some n) : szOf sz (q : Int) = n := by simp [szOf, h]
theorem szOf_set {sz : List Nat} {q n : Nat} (h : q < sz.length) : szOf (sz.set q n) (q : Int) = n := by simp [szOf, h]
theorem szOf_ne {sz : List Nat} {q k n : Nat} (h : q ≠ k) : szOf (sz.set q n) (k : Int) = szOf sz (k : Int) := by simp [szOf, h]

theorem SzFix.least {a : TA} {cap S : Nat} {sz : List Nat} (h : SzFix a cap S sz) {t : Tr} {q : Int} (ht : a.Has t q) : szOf sz q ≠ 0 ∧ szOf sz q ≤ t.nodes := by
  induction ht with
  | leaf hl => rw [h.lv _ hl]; simp [Tr.nodes]
  | node hb _ _ ihs iht =>
    have := h.br _ hb ihs.1 iht.1
    refine ⟨this.1, ?_⟩
    simp only [Tr.nodes]
    omega
theorem SzFix.tree {a : TA} {cap S : Nat} {sz : List Nat} (h : SzFix a cap S sz) {q : Nat} (hq : szOf sz q ≠ 0) : szOf sz q ≤ cap ∧ ∃ t, a.Has t q ∧ (szOf sz q < cap → t.nodes = szOf sz q) ∧ (szOf sz q = cap → cap ≤ t.nodes) := by
  have hg : ∃ n, sz[q]? = some n := by
    cases hx : sz[q]? with
    | none => simp [szOf, hx] at hq
    | some n => exact ⟨n, rfl⟩
  obtain ⟨n, hn⟩ := hg
  have e := szOf_get hn
  rw [e] at hq ⊢
  obtain ⟨h1, t, h2, h3⟩ := h.sound q n hn hq
  have h4 := (h.least h2).2
  rw [e] at h4
  exact ⟨h1, t, h2, fun hlt => by omega, fun he => by omega⟩

/-! ## where the sizes come from -/
def SzFrom (a : TA) (cap : Nat) (sz : List Nat) (lf : List Int) (fr : List Branch) : Prop := ∀ (q n : Nat), sz[q]? = some n → n ≠ 0 →
  (∃ l ∈ a.leaves, l.to = q ∧ lf[q]? = some l.letter ∧ n = 1) ∨
  (lf[q]? = some (-1) ∧ ∃ b ∈ a.branches, b.to = q ∧ fr[q]? = some b ∧ szOf sz b.first ≠ 0 ∧ szOf sz b.second ≠ 0 ∧ min (1 + szOf sz b.first + szOf sz b.second) cap ≤ n)
structure GroI (a : TA) (cap S : Nat) (sz : List Nat) (lf : List Int) (fr : List Branch) : Prop where
  len : sz.length = S
  lenl : lf.length = S
  lenf : fr.length = S
  sound : SzSound a cap sz
  from_ : SzFrom a cap sz lf fr
theorem GroI.zero (a : TA) (cap S : Nat) (lf : List Int) (fr : List Branch) (h1 : lf.length = S) (h2 : fr.length = S) : GroI a cap S (List.replicate S 0) lf fr :=
  ⟨by simp, h1, h2, fun q n h hn => by simp [List.getElem?_replicate] at h; omega, fun q n h hn => by simp [List.getElem?_replicate] at h; omega⟩
theorem szOf_int {sz : List Nat} {q : Nat} : szOf sz (q : Int) = sz[q]?.getD 0 := by simp [szOf]
/-- A size that falls, at one place. -/
theorem sz_falls {sz : List Nat} {q0 n0 : Nat} (h0 : n0 ≠ 0) (hf : szOf sz q0 ≠ 0 → n0 ≤ szOf sz q0) {k : Nat} (hk : szOf sz k ≠ 0) : szOf (sz.set q0 n0) k ≠ 0 ∧ szOf (sz.set q0 n0) k ≤ szOf sz k := by
  by_cases h : q0 = k
  · subst h
    have hlt : q0 < sz.length := by
      refine Nat.lt_of_not_le fun hx => hk ?_
      rw [szOf_int, List.getElem?_eq_none hx]
      rfl
    rw [szOf_set hlt]
    exact ⟨h0, hf hk⟩
  · rw [szOf_ne h]
    exact ⟨hk, Nat.le_refl _⟩
theorem SzSound.set {a : TA} {cap : Nat} {sz : List Nat} (h : SzSound a cap sz) {q0 n0 : Nat} (hn : n0 ≤ cap) {t : Tr} (ht : a.Has t q0) (hm : min t.nodes cap ≤ n0) : SzSound a cap (sz.set q0 n0) := by
  intro q n hq hne
  by_cases e : q0 = q
  · subst e
    rw [List.getElem?_set] at hq
    simp at hq
    obtain ⟨_, rfl⟩ := hq
    exact ⟨hn, t, ht, hm⟩
  · rw [List.getElem?_set, if_neg e] at hq
    exact h q n hq hne
/-- The tree of a branch whose children have trees. -/
theorem SzSound.branch {a : TA} {cap : Nat} {sz : List Nat} (h : SzSound a cap sz) {x f g q : Nat} (hb : (⟨x, f, g, q⟩ : Branch) ∈ a.branches) (hf : szOf sz f ≠ 0) (hg : szOf sz g ≠ 0) :
    ∃ t, a.Has t q ∧ min t.nodes cap ≤ min (1 + szOf sz f + szOf sz g) cap := by
  have ex : ∀ k : Nat, szOf sz k ≠ 0 → ∃ n, sz[k]? = some n ∧ szOf sz k = n := fun k hk => by
    rw [szOf_int] at hk ⊢
    cases hx : sz[k]? with
    | none => rw [hx] at hk; exact absurd rfl hk
    | some n => exact ⟨n, rfl, rfl⟩
  obtain ⟨n1, h1, e1⟩ := ex f hf
  obtain ⟨n2, h2, e2⟩ := ex g hg
  obtain ⟨_, t1, ht1, hm1⟩ := h f n1 h1 (by omega)
  obtain ⟨_, t2, ht2, hm2⟩ := h g n2 h2 (by omega)
  refine ⟨_, TA.Has.node hb ht1 ht2, ?_⟩
  simp only [Tr.nodes]
  omega
theorem SzFrom.set {a : TA} {cap L S : Nat} {sz : List Nat} {lf lf' : List Int} {fr fr' : List Branch} (hF : a.Fits L S) (h : SzFrom a cap sz lf fr) {q0 n0 : Nat} (h0 : n0 ≠ 0) (hf : szOf sz q0 ≠ 0 → n0 ≤ szOf sz q0)
    (hl : ∀ q, q0 ≠ q → lf'[q]? = lf[q]?) (hr : ∀ q, q0 ≠ q → fr'[q]? = fr[q]?)
    (hnew : (∃ l ∈ a.leaves, l.to = q0 ∧ lf'[q0]? = some l.letter ∧ n0 = 1) ∨
      (lf'[q0]? = some (-1) ∧ ∃ b ∈ a.branches, b.to = q0 ∧ fr'[q0]? = some b ∧ szOf (sz.set q0 n0) b.first ≠ 0 ∧ szOf (sz.set q0 n0) b.second ≠ 0 ∧ min (1 + szOf (sz.set q0 n0) b.first + szOf (sz.set q0 n0) b.second) cap ≤ n0)) :
    SzFrom a cap (sz.set q0 n0) lf' fr' := by
  intro q n hq hne
  by_cases e : q0 = q
  · subst e
    rw [List.getElem?_set] at hq
    simp at hq
    obtain ⟨_, rfl⟩ := hq
    exact hnew
  · rw [List.getElem?_set, if_neg e] at hq
    rcases h q n hq hne with ⟨l, hl1, hl2, hl3, hl4⟩ | ⟨h1, b, hb, hb2, hb3, hb4, hb5, hb6⟩
    · exact .inl ⟨l, hl1, hl2, by rw [hl q e]; exact hl3, hl4⟩
    · obtain ⟨x, f, g, k, rfl, _⟩ := hF.br b hb
      dsimp only at *
      have f1 := sz_falls h0 hf hb4
      have f2 := sz_falls h0 hf hb5
      exact .inr ⟨by rw [hl q e]; exact h1, _, hb, hb2, by rw [hr q e]; exact hb3, f1.1, f2.1, by dsimp only; omega⟩
theorem GroI.leaf {a : TA} {cap L S : Nat} {sz : List Nat} {lf : List Int} {fr : List Branch} (hF : a.Fits L S) (hc : 1 ≤ cap) (h : GroI a cap S sz lf fr) {x q : Nat} (hl : (⟨x, q⟩ : Leaf) ∈ a.leaves) (hq : q < S) : GroI a cap S (sz.set q 1) (lf.set q x) fr := by
  have ht : a.Has (.leaf x) q := by simpa using TA.Has.leaf hl
  refine ⟨by rw [List.length_set, h.len], by rw [List.length_set, h.lenl], h.lenf, h.sound.set hc ht (by simp [Tr.nodes]; omega), ?_⟩
  refine h.from_.set hF (by omega) (fun hx => by omega) (fun k hk => by rw [List.getElem?_set, if_neg hk]) (fun _ _ => rfl) (.inl ⟨_, hl, rfl, ?_, rfl⟩)
  rw [List.getElem?_set]
  simp [h.lenl, hq]
theorem GroI.le {a : TA} {cap S : Nat} {sz : List Nat} {lf : List Int} {fr : List Branch} (h : GroI a cap S sz lf fr) (q : Nat) : szOf sz q ≤ cap := by
  rw [szOf_int]
  cases hx : sz[q]? with
  | none => simp
  | some n =>
    by_cases hn : n = 0
    · simp [hn]
    · exact (h.sound q n hx hn).1
theorem GroI.branch {a : TA} {cap L S : Nat} {sz : List Nat} {lf : List Int} {fr : List Branch} (hF : a.Fits L S) (hc : 2 ≤ cap) (h : GroI a cap S sz lf fr) {x f g q : Nat} (hb : (⟨x, f, g, q⟩ : Branch) ∈ a.branches) (hq : q < S)
    (hf : szOf sz f ≠ 0) (hg : szOf sz g ≠ 0) (hn : szOf sz q = 0 ∨ min (1 + szOf sz f + szOf sz g) cap < szOf sz q) :
    GroI a cap S (sz.set q (min (1 + szOf sz f + szOf sz g) cap)) (lf.set q (-1)) (fr.set q ⟨x, f, g, q⟩) := by
  obtain ⟨t, ht, hm⟩ := h.sound.branch hb hf hg
  have l1 := h.le f
  have l2 := h.le g
  have nf : q ≠ f := by rintro rfl; omega
  have ng : q ≠ g := by rintro rfl; omega
  refine ⟨by rw [List.length_set, h.len], by rw [List.length_set, h.lenl], by rw [List.length_set, h.lenf], h.sound.set (Nat.min_le_right _ _) ht hm, ?_⟩
  refine h.from_.set hF (by omega) (fun hx => by omega) (fun k hk => by rw [List.getElem?_set, if_neg hk]) (fun k hk => by rw [List.getElem?_set, if_neg hk]) (.inr ⟨?_, _, hb, rfl, ?_, ?_⟩)
  · rw [List.getElem?_set]
    simp [h.lenl, hq]
  · rw [List.getElem?_set]
    simp [h.lenf, hq]
  · dsimp only
    rw [szOf_ne nf, szOf_ne ng]
    exact ⟨hf, hg, Nat.le_refl _⟩

/-- The leaves' states stay at one. -/
theorem lv_stay {lv : List Leaf} {sz : List Nat} (h : ∀ l ∈ lv, szOf sz l.to = 1) {q n : Nat} (hp : ∀ l ∈ lv, 0 ≤ l.to) (hn : 1 ≤ n) (hq : szOf sz q = 0 ∨ n < szOf sz q) : ∀ l ∈ lv, szOf (sz.set q n) l.to = 1 := by
  intro l hl
  have h1 := h l hl
  obtain ⟨k, hk⟩ := Int.eq_ofNat_of_zero_le (hp l hl)
  rw [hk] at h1 ⊢
  have : q ≠ k := by rintro rfl; omega
  rw [szOf_ne this, h1]
theorem lv_add {lv : List Leaf} {sz : List Nat} {k : Nat} {x q : Nat} (hl : lv[k]? = some ⟨x, q⟩) (hq : q < sz.length) (hp : ∀ l ∈ lv, 0 ≤ l.to) (h : ∀ l ∈ lv.take k, szOf sz l.to = 1) : ∀ l ∈ lv.take (k + 1), szOf (sz.set q 1) l.to = 1 := by
  intro l h1
  rw [List.take_add_one, hl] at h1
  simp only [Option.toList_some, List.mem_append, List.mem_singleton] at h1
  rcases h1 with h1 | rfl
  · have h2 := h l h1
    obtain ⟨j, hj⟩ := Int.eq_ofNat_of_zero_le (hp l (List.mem_of_mem_take h1))
    rw [hj] at h2 ⊢
    by_cases e : q = j
    · subst e; exact szOf_set hq
    · rw [szOf_ne e, h2]
  · exact szOf_set hq

/-! ## the number of rounds -/
def szM (cap : Nat) (n : Nat) : Nat := if n = 0 then cap + 1 else n
def szSum (cap : Nat) (sz : List Nat) : Nat := (sz.map (szM cap)).sum
theorem szSum_set {cap n0 : Nat} : ∀ (sz : List Nat) (q : Nat), q < sz.length → szM cap n0 < szM cap (szOf sz q) → szSum cap (sz.set q n0) < szSum cap sz
  | [], q, h, _ => by simp at h
  | m :: sz, 0, _, hf => by
    simp [szOf] at hf
    simp [szSum]
    omega
  | m :: sz, q + 1, h, hf => by
    have ih := szSum_set sz q (by simpa using h) (by rw [szOf_int] at hf ⊢; simpa using hf)
    unfold szSum at ih ⊢
    simp only [List.set_cons_succ, List.map_cons, List.sum_cons]
    omega
theorem szM_falls {cap S : Nat} {a : TA} {sz : List Nat} {lf : List Int} {fr : List Branch} (h : GroI a cap S sz lf fr) {q n : Nat} (hn : n ≠ 0) (hc : n ≤ cap) (hf : szOf sz q = 0 ∨ n < szOf sz q) : szM cap n < szM cap (szOf sz q) := by
  have := h.le q
  unfold szM
  split <;> split <;> omega

/-! ## the tree that is written -/
inductive Wr (lf : List Int) (fr : List Branch) : Nat → Tr → Prop
  | leaf {q x : Nat} (h : lf[q]? = some (x : Int)) : Wr lf fr q (.leaf x)
  | node {q x f g : Nat} {to : Int} {s t : Tr} (h : lf[q]? = some (-1)) (hb : fr[q]? = some ⟨x, f, g, to⟩) (hs : Wr lf fr f s) (ht : Wr lf fr g t) : Wr lf fr q (.node x s t)
theorem wr_of {a : TA} {cap L S : Nat} {sz : List Nat} {lf : List Int} {fr : List Branch} (hF : a.Fits L S) (hI : SzFrom a cap sz lf fr) (hX : SzFix a cap S sz) : ∀ (n q : Nat), szOf sz q = n → n ≠ 0 → n < cap → ∃ t, Wr lf fr q t ∧ a.Has t q ∧ t.nodes = n := by
  intro n
  induction n using Nat.strongRecOn with
  | _ n ih =>
    intro q hq hn hc
    have hg : sz[q]? = some n := by
      rw [szOf_int] at hq
      cases hx : sz[q]? with
      | none => rw [hx] at hq; simp at hq; omega
      | some m => rw [hx] at hq; simp at hq; rw [hq]
    rcases hI q n hg hn with ⟨l, hl, hto, hlf, h1⟩ | ⟨h1, b, hb, hto, hfr, hb4, hb5, hb6⟩
    · obtain ⟨x, k, rfl, _⟩ := hF.lv l hl
      dsimp only at hto hlf
      have : k = q := by omega
      subst this
      exact ⟨.leaf x, .leaf hlf, by simpa using TA.Has.leaf hl, by rw [h1]; rfl⟩
    · obtain ⟨x, f, g, k, rfl, _⟩ := hF.br b hb
      dsimp only at *
      have e : k = q := by omega
      subst e
      have hst := hX.br _ hb hb4 hb5
      dsimp only at hst
      obtain ⟨t1, w1, p1, n1⟩ := ih (szOf sz f) (by omega) f rfl hb4 (by omega)
      obtain ⟨t2, w2, p2, n2⟩ := ih (szOf sz g) (by omega) g rfl hb5 (by omega)
      refine ⟨.node x t1 t2, .node h1 hfr w1 w2, by simpa using TA.Has.node hb p1 p2, ?_⟩
      simp only [Tr.nodes, n1, n2]
      omega
end Go.Proofs.Ytnimlcbgeiajiaa

namespace Go.Proofs.Ytnimlcbgeiajiaa
open Go.RowKit

def regionsOf : Code → List Code
  | .region i o d => [.region i o d]
  | .loop c => regionsOf c
  | .seq a b => regionsOf a ++ regionsOf b
  | .block _ c => regionsOf c
  | .scope c => regionsOf c
  | .cond _ a b => regionsOf a ++ regionsOf b
  | _ => []
def regionAt (f : Func) (k : Nat) : Code := match f.body with
  | some c => (regionsOf c).getD k .skip
  | none => .skip

/-- Blocks that were laid since. -/
structure AllB (w0 w : World) (l : List (Nat × TypeId × Array Value)) : Prop where
  below : Below w0.heap.size w0 w
  blk : ∀ x ∈ l, Blk w x.1 x.2.1 x.2.2 ∧ w0.heap.size ≤ x.1
  nodup : (l.map (·.1)).Nodup
theorem AllB.nil (w : World) : AllB w w [] := ⟨Below.refl _ _, fun _ h => by simp at h, by simp⟩
theorem AllB.add {w0 w w1 : World} {l : List (Nat × TypeId × Array Value)} (h : AllB w0 w l) (hb : Below w.heap.size w w1) {g : Nat} {e : TypeId} {cs : Array Value} (hg : Blk w1 g e cs) (hs : w.heap.size ≤ g) : AllB w0 w1 ((g, e, cs) :: l) := by
  refine ⟨h.below.trans (hb.mono h.below.size), fun x hx => ?_, ?_⟩
  · rcases List.mem_cons.1 hx with rfl | hx
    · exact ⟨hg, Nat.le_trans h.below.size hs⟩
    · exact ⟨(h.blk x hx).1.below hb, (h.blk x hx).2⟩
  · rw [List.map_cons, List.nodup_cons]
    refine ⟨fun hx => ?_, h.nodup⟩
    obtain ⟨x, hx, e⟩ := List.mem_map.1 hx
    have := (h.blk x hx).1.lt
    dsimp only at e
    omega
theorem AllB.drew {w0 w : World} {l : List (Nat × TypeId × Array Value)} (h : AllB w0 w l) : AllB w0 w.drew l :=
  ⟨h.below.trans ((drew_below w).mono h.below.size), h.blk, h.nodup⟩

theorem AllB.pick {w0 w : World} {l : List (Nat × TypeId × Array Value)} (h : AllB w0 w l) (l' : List (Nat × TypeId × Array Value)) (hl : ∀ x ∈ l', x ∈ l) (hn : (l'.map (·.1)).Nodup) : AllB w0 w l' :=
  ⟨h.below, fun x hx => h.blk x (hl x hx), hn⟩
def set3 (w : World) (g : Nat) (v0 v1 v2 : Value) : World := ((w.setCell ⟨g, 0, none⟩ v0).setCell ⟨g, 1, none⟩ v1).setCell ⟨g, 2, none⟩ v2
theorem AllB.set3 {w0 w : World} {l : List (Nat × TypeId × Array Value)} {g : Nat} {e : TypeId} {a b c : Value} (h : AllB w0 w ((g, e, #[a, b, c]) :: l)) (v0 v1 v2 : Value) : AllB w0 (set3 w g v0 v1 v2) ((g, e, #[v0, v1, v2]) :: l) := by
  have hg := (h.blk _ List.mem_cons_self)
  have hk : Kept w (Go.Proofs.Ytnimlcbgeiajiaa.set3 w g v0 v1 v2) (fun k => k = g) := (((Kept.refl w (fun k => k = g)).setCell (p := ⟨g, 0, none⟩) (fun _ => rfl) _).setCell (p := ⟨g, 1, none⟩) (fun _ => rfl) _).setCell (p := ⟨g, 2, none⟩) (fun _ => rfl) _
  have hb := (((hg.1.set_ 0 v0).set_ 1 v1).set_ 2 v2)
  refine ⟨h.below.trans (hk.below h.below.size fun b hb e => by have := hg.2; dsimp only at this; omega), fun x hx => ?_, h.nodup⟩
  rcases List.mem_cons.1 hx with rfl | hx
  · exact ⟨hb, hg.2⟩
  · have h1 := h.blk x (List.mem_cons_of_mem _ hx)
    refine ⟨Blk.kept h1.1 hk fun e => ?_, h1.2⟩
    have h2 := h.nodup
    rw [List.map_cons, List.nodup_cons] at h2
    exact h2.1 (List.mem_map.2 ⟨x, hx, e⟩)

section
variable {P : Program} {ops : Array Oper} {rest : List Oper} {o : Oper} {a : Act} {Q : Exit → Act → World → Prop}
theorem wpList_make {w : World} {t e bytes sz : Nat} {z : Value} (ht : P.underlying t = some (.slice e)) (hi : (P.info? e).map (fun i => (i.zero, i.size, i.bytes)) = some (some z, sz, bytes)) (hb : bytes ≤ 200) (hsz : sz ≤ 200)
    (n : Nat) (hn : n ≤ 80000) (hgd : o.guard = none) (x y : Operand) (ho : o.op = .makeSlice t x y) (hx : a.eval x = .int .i64 n) (hy : a.eval y = .int .i64 n)
    (h : ∀ g w1, Blk w1 g e (madeCells z.cells (n * sz)) → Below w.heap.size w w1 → w.heap.size ≤ g → wpList P ops Q rest (a.put o.dst (.slice (some ⟨g, 0, none⟩) n n)) w1) : wpList P ops Q (o :: rest) a w := by
  refine wpList_plain hgd fun K hK => ?_
  obtain ⟨i, h1, h2, h3, h4⟩ := info_parts hi
  have hb' : bytes * n ≤ 200 * 80000 := Nat.mul_le_mul hb hn
  have hb2 : (i.bytes : Int) * (n : Int) ≤ 281474976710656 := by
    rw [h4, ← Int.natCast_mul]; omega
  have hs' : n * sz ≤ 80000 * 200 := Nat.mul_le_mul hn hsz
  have hs2 : ((n : Int).toNat) * i.size ≤ 16000000 := by rw [h3, Int.toNat_natCast]; omega
  have hr := run_makeSlice (P := P) w t e i z ht h1 h2 .i64 .i64 n n (by omega) (Int.le_refl _) (by omega) hb2 (by omega)
  simp only [Int.toNat_natCast] at hr
  rw [h3] at hr
  unfold Oper.wp execOp
  simp only [ho, hx, hy, Sem.run_bind, Sem.run_pure, Result.andThen_ok, hr]
  exact hK _ _ (h _ _ (Blk.new _ _ _) ((Below.refl _ _).alloc (Nat.le_refl _) _) (Nat.le_refl _))
theorem wpList_alloc {w : World} {t bytes sz : Nat} {z : Value} (hi : (P.info? t).map (fun i => (i.zero, i.size, i.bytes)) = some (some z, sz, bytes))
    (hgd : o.guard = none) (ho : o.op = .alloc t)
    (h : ∀ g w1, Blk w1 g t z.cells → Below w.heap.size w w1 → w.heap.size ≤ g → wpList P ops Q rest (a.put o.dst (.pointer (some ⟨g, 0, none⟩))) w1) : wpList P ops Q (o :: rest) a w := by
  refine wpList_plain hgd fun K hK => ?_
  obtain ⟨i, h1, h2, h3, h4⟩ := info_parts hi
  have hr : (Instr.alloc t true (.tuple #[])).run P w = .ok (.pointer (some ⟨w.heap.size, 0, none⟩)) (w.alloc (.cells z.cells t)) := by
    simp [Instr.alloc, zeroValue, typeInfo, go_sem, h1, h2]
  unfold Oper.wp execOp
  simp only [ho, Sem.run_bind, Sem.run_pure, Result.andThen_ok, hr]
  exact hK _ _ (h _ _ (Blk.new _ _ _) ((Below.refl _ _).alloc (Nat.le_refl _) _) (Nat.le_refl _))
end
namespace Reg
theorem rest_walkE {P : Program} {Q : Post} {a : Act} {w : World} {l l1 : List Oper} {tab D T : List Nat} (T1 T2 : List Nat) (hT : T1 ++ T2 = T) (hl : pick l.toArray T1 = l1)
    (hc : (T1.all (fun i => decide (i < l.length)) && plainB P false l.toArray tab T1 && D.all (fun r => T1.all fun y => match l.toArray[r]?, l.toArray[y]? with
      | some q, some oy => !loadOp q.op || !eff P false oy || befT tab r y
      | _, _ => true)) = true)
    (h : ∀ Qf : Post, (∀ a w, Rest P l.toArray tab Q (T1 ++ D) T2 a w → Qf .normal a w) → wpList P l.toArray Qf l1 a w) : Rest P l.toArray tab Q D T a w := by
  subst hT
  exact rest_walk' T1 T2 hl hc h
end Reg
end Go.Proofs.Ytnimlcbgeiajiaa

namespace Go.Proofs.Ytnimlcbgeiajiaa
open Go.RowKit

section
variable {S : Type} [DecidableEq S] {P : Program} {K : TypeId}
theorem findAsking_enc {enc : S → Value} (hE : ∀ w s t, (Op.equal K (enc s) (enc t)).run P w = .ok (decide (s = t)) w) (s : S) (w : World) (es : List MapEntry) : ∀ (l : List S) (i : Nat), es.map (·.key) = l.map enc →
    (Instr.findAsking K (enc s) es i).run P w = .ok (if s ∈ l then some (i + l.idxOf s, ((es[l.idxOf s]?).map (·.val)).getD .nilFunc) else none) w := by
  induction es with
  | nil =>
    intro l i h
    have : l = [] := by cases l <;> simp_all
    subst this
    simp [Instr.findAsking]
  | cons e es ih =>
    intro l i h
    cases l with
    | nil => simp at h
    | cons t l =>
      simp only [List.map_cons, List.cons.injEq] at h
      obtain ⟨h1, h2⟩ := h
      unfold Instr.findAsking
      rw [h1]
      simp only [Sem.run_bind, hE, Result.andThen_ok]
      by_cases hst : s = t
      · subst hst
        simp
      · simp only [hst, decide_false, Bool.false_eq_true, if_false]
        rw [ih l (i + 1) h2]
        have hidx : (t :: l).idxOf s = l.idxOf s + 1 := by
          rw [List.idxOf_cons]
          have : (t == s) = false := by simpa using fun e => hst e.symm
          rw [this]; rfl
        by_cases hsl : s ∈ l
        · simp only [hsl, hidx, List.mem_cons, or_true, if_true, List.getElem?_cons_succ]
          have e2 : i + 1 + l.idxOf s = i + (l.idxOf s + 1) := by omega
          rw [e2]
        · simp [hsl, hst]
theorem keyOK_ask {enc : S → Value} {d : TypeDesc} (hK : P.underlying K = some d) (hs : ∀ s t, Instr.sameNow d (enc s) (enc t) = none) (hc : ∀ em w s, (Instr.checkKey em 10000 K (enc s)).run P w = .ok () w)
    (hE : ∀ w s t, (Op.equal K (enc s) (enc t)).run P w = .ok (decide (s = t)) w) : KeyOK P K enc where
  check := hc
  find := fun w s es l h => by
    unfold Instr.findKey
    simp only [Sem.run_bind, run_underlying hK, Result.andThen_ok]
    cases es with
    | nil =>
      have : l = [] := by cases l <;> simp_all
      subst this
      simp [Instr.findNow]
    | cons e es =>
      cases l with
      | nil => simp at h
      | cons t l =>
        have hh := h
        simp only [List.map_cons, List.cons.injEq] at h
        have hn : Instr.findNow d (enc s) (e :: es) 0 = none := by
          unfold Instr.findNow
          rw [h.1, hs]
        rw [hn]
        have := findAsking_enc hE s w (e :: es) (t :: l) 0 hh
        simpa using this
end

def encP (s : Nat × Nat) : Value := .agg #[.int .i64 (s.1 : Int), .int .i64 (s.2 : Int)]
def cellsP (s : Nat × Nat) : List Value := [.int .i64 (s.1 : Int), .int .i64 (s.2 : Int)]
theorem eq118 (a b c d : Int) (w : World) : (Op.equalIn 10000 118 (.agg #[.int .i64 a, .int .i64 b]) (.agg #[.int .i64 c, .int .i64 d])).run Try.prog w = .ok (a == c && b == d) w := by
  by_cases h1 : a = c <;> by_cases h2 : b = d <;> simp [go_sem, h1, h2]
theorem equalP (w : World) (s t : Nat × Nat) : (Op.equal 118 (encP s) (encP t)).run Try.prog w = .ok (decide (s = t)) w := by
  obtain ⟨a, b⟩ := s
  obtain ⟨c, d⟩ := t
  refine (eq118 a b c d w).trans ?_
  congr 1
  rw [Bool.eq_iff_iff]
  simp
  omega
theorem checkP (d0 : Nat) (em : Bool) (w : World) (s : Nat × Nat) : (Instr.checkKey em (d0 + 1 + 1) 118 (encP s)).run Try.prog w = .ok () w := by
  unfold encP
  simp [Instr.checkKey, go_sem]
theorem keyP : KeyOK Try.prog 118 encP := keyOK_ask Try.underlying118 (fun _ _ => rfl) (fun em w s => checkP 9998 em w s) equalP

theorem info118 : (Try.prog.info? 118).map (fun i => (i.zero, i.size, i.bytes)) = some (some (.agg #[.int .i64 0, .int .i64 0]), 2, 16) := by kernel_rfl
theorem row123 : RowTy Try.prog 123 118 2 := rowTy_of Try.underlying123 info118 rfl (by omega) (by omega)

namespace PB
/-- The builder's memory: its struct in block gb, its map in block gm, its list the slice vl. -/
structure BldU (w : World) (base gb gm : Nat) (c0 c1 c4 c5 c6 : Value) (vl : Value) (l : List (Nat × Nat)) : Prop where
  blk : Blk w gb 125 #[c0, c1, .map (some gm), vl, c4, c5, c6]
  map : IdxMap w gm (l.map encP)
  row : w.ownsRow base 118 2 vl l.length (l.flatMap cellsP)

set_option maxHeartbeats 2000000 in
set_option maxRecDepth 100000 in
theorem meetU_old (w : World) (base gb gm : Nat) (c0 c1 c4 c5 c6 vl : Value) (l : List (Nat × Nat)) (s : Nat × Nat) (h : BldU w base gb gm c0 c1 c4 c5 c6 vl l) (hs : s ∈ l) :
    Calls Try.prog 110 #[.pointer (some ⟨gb, 0, none⟩), encP s] w (Ret fun v w' => v = .int .i64 (numL l s : Int) ∧ Below w.heap.size w w') := by
  obtain ⟨w1, hw1, hb1, hB1, hk1⟩ := box_blk w #[.int .i64 (s.1 : Int), .int .i64 (s.2 : Int)] 118
  have hblk1 := h.blk.kept hk1 id
  have hmap1 := h.map.kept hk1 id
  have hc := hblk1.cell
  have hcb := hB1.cell
  have hmapd : IdxMap w1.drew gm (l.map encP) := hmap1
  have hlk := run_idx_lookup keyP Try.underlying122 zero3 hmapd s
  simp only [hs, if_true, decide_true, encP] at hlk
  have hst := hide (hb1.trans ((drew_below w1).mono hb1.size))
  clear hmapd hmap1
  unfold encP
  go_enter Try.func110, Try.ntmps110
  go_wp2_with fail
  refine Reg.region_plain [0, 1, 3, 7, 0, 31, 63, 127, 127, 255, 1023] (by kernel_rfl) (by repeat (first | exact Reg.NoQ.body (fun _ _ h => h) (fun _ h => h) | refine Reg.NoQ.then ?_ | refine Reg.NoQ.inBlock ?_)) ?_
  go_wp2_with fail
  go_ret
  refine ⟨?_, hst.out⟩
  simp [numL]

set_option maxHeartbeats 4000000 in
set_option maxRecDepth 100000 in
theorem meetU_new (w : World) (base gb gm : Nat) (c0 c1 c4 c5 c6 vl : Value) (l : List (Nat × Nat)) (s : Nat × Nat) (h : BldU w base gb gm c0 c1 c4 c5 c6 vl l) (hs : s ∉ l) (hlen : l.length < 60000) (hbase : base ≤ w.heap.size) :
    Calls Try.prog 110 #[.pointer (some ⟨gb, 0, none⟩), encP s] w (Ret fun v w' => v = .int .i64 (l.length : Int) ∧ ∃ vl', BldU w' base gb gm c0 c1 c4 c5 c6 vl' (l ++ [s]) ∧
      Kept w w' (fun k => k = gb ∨ k = gm ∨ vl.ownBlock = some k) ∧ Moved w vl vl') := by
  obtain ⟨w1, hw1, hb1, hB1, hk1⟩ := box_blk w #[.int .i64 (s.1 : Int), .int .i64 (s.2 : Int)] 118
  have hblk1 := h.blk.kept hk1 id
  have hmap1 := h.map.kept hk1 id
  have hrow1 : w1.ownsRow base 118 2 vl l.length (l.flatMap cellsP) := hk1.ownsRow h.row (fun _ _ => id)
  have hc := hblk1.cell
  have hcb := hB1.cell
  have hmapd : IdxMap w1.drew gm (l.map encP) := hmap1
  have hmapd2 : IdxMap w1.drew.drew gm (l.map encP) := hmap1
  have hlk := run_idx_lookup keyP Try.underlying122 zero3 hmapd s
  simp only [hs, if_false, decide_false, encP] at hlk
  obtain ⟨wm, hup, hm1, hm2, -⟩ := run_idx_store keyP Try.underlying122 hmapd2 s hs
  obtain ⟨A, c, rfl⟩ := slice_of_own h.row
  simp only [encP] at hup
  have hd2 : Kept w1 w1.drew.drew (fun _ => False) := ((Kept.refl w1 _).drew).drew
  have hnb : (Value.slice A l.length c).ownBlock ≠ some w.heap.size := fun e => by have := own_lt h.row e; omega
  have hrow : wm.ownsRow base 118 2 (.slice A l.length c) l.length (l.flatMap cellsP) := (hd2.ownsRow hrow1 (fun _ _ => id)).kept hm2 (.inr fun e => own_map_ne hrow1 hmap1 e)
  have hblk : Blk wm gb 125 #[c0, c1, .map (some gm), .slice A l.length c, c4, c5, c6] := (hblk1.kept hd2 id).kept (Kept.of_grown hm2) (fun e => blk_map_ne hblk1 hmap1 (Option.some.inj e).symm)
  have hbox : Blk wm w.heap.size 118 #[.int .i64 (s.1 : Int), .int .i64 (s.2 : Int)] := (hB1.kept hd2 id).kept (Kept.of_grown hm2) (fun e => blk_map_ne hB1 hmap1 (Option.some.inj e).symm)
  have hc2 := hblk.cell
  have hcb2 := hbox.cell
  have hsz := hblk.lt
  have hgmne : gm ≠ gb := fun e => blk_map_ne h.blk h.map e.symm
  have hk01 : Kept w w1 (fun k => some gm = some k) := hk1.mono fun _ _ h => h.elim
  have hk02 : Kept w1 w1.drew.drew (fun k => some gm = some k) := hd2.mono fun _ _ h => h.elim
  have hk0 : Kept w wm (fun k => k = gb ∨ k = gm ∨ (Value.slice A l.length c).ownBlock = some k) := (((hk01.trans hk02 (fun _ _ h => h)).trans (Kept.of_grown hm2) (fun _ _ h => h))).mono (fun b _ hb => .inr (.inl (Option.some.inj hb).symm))
  have hms2 := hk0.size
  clear hmapd hmapd2 hmap1 hrow1
  unfold encP
  go_enter Try.func110, Try.ntmps110
  go_wp2_with fail
  refine Reg.region_plain [0, 1, 3, 7, 0, 31, 63, 127, 127, 255, 1023] (by kernel_rfl) (by repeat (first | exact Reg.NoQ.body (fun _ _ h => h) (fun _ h => h) | refine Reg.NoQ.then ?_ | refine Reg.NoQ.inBlock ?_)) ?_
  go_wp2_with fail
  refine Reg.region_plain [0, 1, 3, 7, 0, 0, 63] (by kernel_rfl) (by repeat (first | exact Reg.NoQ.body (fun _ _ h => h) (fun _ h => h) | refine Reg.NoQ.then ?_ | refine Reg.NoQ.inBlock ?_)) ?_
  go_wp2_with fail
  refine Reg.region_plain [0, 0, 2, 6, 14, 0, 32, 126, 255, 511, 1023] (by kernel_rfl) (by repeat (first | exact Reg.NoQ.body (fun _ _ h => h) (fun _ h => h) | refine Reg.NoQ.then ?_ | refine Reg.NoQ.inBlock ?_)) ?_
  have hrowd : wm.drew.ownsRow base 118 2 (.slice A l.length c) l.length (l.flatMap cellsP) := ((Kept.refl wm (fun _ => False)).drew).ownsRow hrow (fun _ _ => id)
  have hblkd : Blk wm.drew gb 125 #[c0, c1, .map (some gm), .slice A l.length c, c4, c5, c6] := hblk
  have hbd : base ≤ wm.drew.heap.size := Nat.le_trans hbase hms2
  go_wp2_with (at_builtin; refine wpList_app_new (w := wm.drew) row123 rfl _ _ rfl base (.slice A l.length c) l.length _ rfl hrowd (cellsP s) 1 rfl rfl (by simp [cellsP, Value.oneCell']) (by omega) hbd ?_; intro g cap w5 hown hk5 hmv hg; have hblk5 := hblkd.kept hk5 (fun e => own_blk_ne hrowd hblkd (by decide) e); have hc5 := hblk5.cell; have hf5 := hblk5.frozen)
  go_ret
  have hm1d : IdxMap wm.drew gm ((l ++ [s]).map encP) := hm1
  have hmvw : Moved wm (.slice A l.length c) (.slice (some ⟨g, 0, none⟩) (l.length + 1) cap) := hmv
  have hk5w : Kept wm w5 (fun k => (Value.slice A l.length c).ownBlock = some k) := ⟨hk5.os, hk5.tape, hk5.output, hk5.size, hk5.block⟩
  have hkA : Kept wm (w5.setCell ⟨gb, 3, none⟩ (.slice (some ⟨g, 0, none⟩) (l.length + 1) cap)) (fun k => k = gb ∨ (Value.slice A l.length c).ownBlock = some k) := (hk5w.mono (fun _ _ h => .inr h)).setCell (fun _ => .inl rfl) _
  have hkB := (Kept.refl w5 (fun k => k = gb)).setCell (p := ⟨gb, 3, none⟩) (fun _ => rfl) (.slice (some ⟨g, 0, none⟩) (l.length + 1) cap)
  refine ⟨rfl, .slice (some ⟨g, 0, none⟩) (l.length + 1) cap, ⟨hblk5.set_ 3 _, hm1.kept hkA (fun h => h.elim hgmne (own_map_ne hrow hm1)), ?_⟩, ?_, (Moved.refl w _).trans hms2 hmvw⟩
  · have := hkB.ownsRow hown (fun g' hg' e => own_blk_ne hown hblk5 (by decide) (by rw [← e]; exact hg'))
    simpa [cellsP] using this
  · refine hk0.trans hkA ?_
    rintro b _ (hb | hb)
    · exact .inl hb
    · exact .inr (.inr hb)

theorem meetU (w : World) (base gb gm : Nat) (c0 c1 c4 c5 c6 vl : Value) (l : List (Nat × Nat)) (s : Nat × Nat) (h : BldU w base gb gm c0 c1 c4 c5 c6 vl l) (hlen : l.length < 60000) (hbase : base ≤ w.heap.size) :
    Calls Try.prog 110 #[.pointer (some ⟨gb, 0, none⟩), encP s] w (Ret fun v w' => v = .int .i64 (numL (meetL l s) s : Int) ∧ ∃ vl', BldU w' base gb gm c0 c1 c4 c5 c6 vl' (meetL l s) ∧
      Kept w w' (fun k => k = gb ∨ k = gm ∨ vl.ownBlock = some k) ∧ Moved w vl vl') := by
  by_cases hs : s ∈ l
  · refine Calls.ret (meetU_old w base gb gm c0 c1 c4 c5 c6 vl l s h hs) fun v w' ⟨hv, hb⟩ => ?_
    have hk := Kept.of_below hb (fun _ => False)
    have e : meetL l s = l := by unfold meetL; rw [if_pos hs]
    simp only [Ret, e]
    exact ⟨hv, vl, ⟨h.blk.kept hk id, h.map.kept hk id, hk.ownsRow h.row (fun _ _ => id)⟩, Kept.of_below hb _, Moved.refl _ _⟩
  · refine (Calls.ret (meetU_new w base gb gm c0 c1 c4 c5 c6 vl l s h hs hlen hbase) fun v w' hv => ?_)
    have e : meetL l s = l ++ [s] := by unfold meetL; rw [if_neg hs]
    have e2 : numL (l ++ [s]) s = l.length := by rw [← e]; exact numL_new hs
    simp only [Ret, e, e2]
    exact hv
end PB
end Go.Proofs.Ytnimlcbgeiajiaa

namespace Go.Proofs.Ytnimlcbgeiajiaa
open Go.RowKit

/-- A pair of a row. -/
theorem flatP (l : List (Nat × Nat)) : ∀ (k j : Nat) (s : Nat × Nat), l[k]? = some s → j < 2 → (l.flatMap cellsP)[k * 2 + j]? = (cellsP s)[j]? := by
  induction l with
  | nil => intro k j s h; simp at h
  | cons t l ih =>
    intro k j s h hj
    rw [List.flatMap_cons]
    cases k with
    | zero =>
      simp at h
      subst h
      rw [Nat.zero_mul, Nat.zero_add, List.getElem?_append_left (by simpa [cellsP] using hj)]
    | succ k =>
      rw [List.getElem?_append_right (by simp [cellsP]; omega)]
      have : (k + 1) * 2 + j - (cellsP t).length = k * 2 + j := by simp [cellsP]; omega
      rw [this]
      exact ih k j s (by simpa using h) hj
theorem lenP (l : List (Nat × Nat)) : (l.flatMap cellsP).length = l.length * 2 := by
  induction l with
  | nil => rfl
  | cons t l ih => rw [List.flatMap_cons, List.length_append, ih]; simp [cellsP]; omega
theorem own_getP {w : World} {base n : Nat} {e : TypeId} {v : Value} {l : List (Nat × Nat)} (h : w.ownsRow base e 2 v n (l.flatMap cellsP)) {k : Nat} {s : Nat × Nat} (hk : l[k]? = some s) :
    ∃ g cap, v = .slice (some ⟨g, 0, none⟩) n cap ∧ w.cell? ⟨g, k * 2, none⟩ = some (.int .i64 (s.1 : Int)) ∧ w.cell? ⟨g, k * 2 + 1, none⟩ = some (.int .i64 (s.2 : Int)) := by
  obtain ⟨hl, hx⟩ := h
  have hkl := lt_of_get hk
  rw [lenP] at hl
  rcases hx with ⟨_, h0⟩ | ⟨g, cap, cur, rfl, hb, hh, hc, hm, hs, ht⟩
  · omega
  · have get : ∀ j, j < 2 → w.cell? ⟨g, k * 2 + j, none⟩ = (cellsP s)[j]? := fun j hj => by
      rw [cell_of_row w g (k * 2 + j) cur e (0, 0) hh, ← flatP l k j s hk hj, ← ht, List.getElem?_take]
      simp; omega
    exact ⟨g, cap, rfl, get 0 (by omega), get 1 (by omega)⟩

namespace PB
/-- What build's closures answer, over the pairs that hold P. -/
structure ClosU (wb : World) (gb L : Nat) (cap4 cap5 cap6 : Value) (leaf : Nat → Nat × Nat) (br : Nat → Nat × Nat → Nat × Nat → Nat × Nat) (acc : Nat × Nat → Bool) (P : Nat × Nat → Prop) : Prop where
  fl : ∀ w', Kept wb w' (fun k => k = gb) → ∀ x : Nat, x < L → Calls Try.prog 89 #[.int .i64 x, cap4, cap5] w' (Ret fun v w'' => v = encP (leaf x) ∧ Below w'.heap.size w' w'')
  fb : ∀ w', Kept wb w' (fun k => k = gb) → ∀ (x : Nat) (s t : Nat × Nat), x < L → P s → P t → Calls Try.prog 90 #[.int .i64 x, encP s, encP t, cap4, cap5] w' (Ret fun v w'' => v = encP (br x s t) ∧ Below w'.heap.size w' w'')
  fa : ∀ w', Kept wb w' (fun k => k = gb) → ∀ s : Nat × Nat, P s → Calls Try.prog 91 #[encP s, cap6, cap4, cap5] w' (Ret fun v w'' => v = .bool (acc s) ∧ Below w'.heap.size w' w'')
  pleaf : ∀ x, x < L → P (leaf x)
  pbr : ∀ x s t, x < L → P s → P t → P (br x s t)
  plen : ∀ l : List (Nat × Nat), l.Nodup → (∀ s ∈ l, P s) → l.length ≤ 4096

theorem BldU.below {w w' : World} {base gb gm : Nat} {c0 c1 c4 c5 c6 vl : Value} {l : List (Nat × Nat)} (h : BldU w base gb gm c0 c1 c4 c5 c6 vl l) (hb : Below w.heap.size w w') : BldU w' base gb gm c0 c1 c4 c5 c6 vl l :=
  ⟨h.blk.kept (Kept.of_below hb fun _ => False) id, h.map.kept (Kept.of_below hb fun _ => False) id, (Kept.of_below hb fun _ => False).ownsRow h.row fun _ _ => id⟩

theorem BldU.tops {w w0 : World} {gb gm gr : Nat} {c0 c1 c4 c5 c6 vl : Value} {l : List (Nat × Nat)} (h : BldU w w0.heap.size gb gm c0 c1 c4 c5 c6 vl l) (hgm : w0.heap.size ≤ gm) (hgr : w0.heap.size ≤ gr) :
    ∀ b, b < w0.heap.size → (b = gb ∨ b = gm ∨ b = gr ∨ vl.ownBlock = some b) → b = gb := by
  rintro b hb (h1 | h1 | h1 | h1)
  · exact h1
  · omega
  · omega
  · have := own_base h.row h1; omega
theorem BldU.not {w : World} {base gb gm gr : Nat} {c0 c1 c4 c5 c6 vl : Value} {l : List (Nat × Nat)} {t : TypeId} {cs : Array Value} (h : BldU w base gb gm c0 c1 c4 c5 c6 vl l) (hr : Blk w gr t cs) (h1 : t ≠ 125) (h2 : 118 ≠ t) : ¬ (gr = gb ∨ gr = gm ∨ vl.ownBlock = some gr) := by
  rintro (e | e | e)
  · exact hr.ne_ h.blk h1 e
  · exact blk_map_ne hr h.map e
  · exact own_blk_ne h.row hr h2 e
theorem BldU.setCell {w : World} {base gb gm gr k : Nat} {c0 c1 c4 c5 c6 vl : Value} {l : List (Nat × Nat)} (h : BldU w base gb gm c0 c1 c4 c5 c6 vl l) (hn : ¬ (gr = gb ∨ gr = gm ∨ vl.ownBlock = some gr)) (u : Value) : BldU (w.setCell ⟨gr, k, none⟩ u) base gb gm c0 c1 c4 c5 c6 vl l := by
  have hk := (Kept.refl w (fun b => b = gr)).setCell (p := ⟨gr, k, none⟩) (fun _ => rfl) u
  exact ⟨h.blk.kept hk fun e => hn (.inl e.symm), h.map.kept hk fun e => hn (.inr (.inl e.symm)), hk.ownsRow h.row fun g hg e => hn (.inr (.inr (by rw [← e]; exact hg)))⟩
set_option maxHeartbeats 4000000 in
set_option maxRecDepth 100000 in
theorem bld_fill {wb : World} {gb gm gr L i j : Nat} {c1 c4 c6 cap4 cap5 cap6 : Value} {leaf : Nat → Nat × Nat} {br : Nat → Nat × Nat → Nat × Nat → Nat × Nat} {acc : Nat × Nat → Bool} {P : Nat × Nat → Prop} (hC : ClosU wb gb L cap4 cap5 cap6 leaf br acc P)
    {l0 : List (Nat × Nat)} (hL : L ≤ 8) {s t : Nat × Nat} (hs : l0[i]? = some s) (ht : l0[j]? = some t)
    {w : World} (hK : Kept wb w (fun k => k = gb)) {vl : Value} {l : List (Nat × Nat)} (hB : BldU w wb.heap.size gb gm (.int .i64 L) c1 c4 (.func (.func 90) #[] #[cap4, cap5]) c6 vl l) (hM : Mid L br l0 l) (hP : ∀ s ∈ l, P s)
    (hR : Blk w gr 3 (fillC L [])) (hgr : wb.heap.size ≤ gr) (hgm : wb.heap.size ≤ gm)
    {u1 u2 u3 u4 u5 u6 u7 u8 u12 u13 u14 u15 u16 u17 u18 u19 u20 u21 u22 u23 u24 u25 u26 u27 u28 u29 u30 u31 u32 u33 u34 u35 u36 u37 u38 u39 u40 u41 u42 u43 u44 u45 u46 u47 u48 u49 u50 u51 u52 u53 u54 u55 u56 u57 u58 u59 u60 u61 u62 u63 u64 u65 u66 u67 u68 u69 u70 u71 u72 u73 u74 u75 u76 u77 u78 u79 u80 u81 u82 u83 u84 u85 u86 u87 u88 u89 u90 u91 u92 u93 u94 u95 u96 u97 u98 u99 u100 u101 u102 u103 u104 u105 u106 u107 u108 u109 u110 u111 u112 u113 u114 u115 u116 u117 u118 u119 u120 u123 u124 u125 u126 u127 u128 u129 u130 u131 u132 u133 u134 u135 u136 u137 u138 u139 u140 u141 u142 u143 u144 u145 u146 u147 u148 u149 u150 u151 u152 u153 u154 u155 u156 u157 u158 u159 u160 u161 u162 u163 u164 u165 u166 u167 u168 u169 u170 u171 u172 u173 u174 u175 u176 u177 u178 u179 u180 u181 u182 u183 u184 u185 u186 u187 u188 u189 u190 u191 u192 u193 u194 u195 u196 : Value}
    {Q : Exit → Act → World → Prop} (hN : Reg.NoQ Q)
    (hQ : ∀ (x12 x122 x123 x124 x125 x126 x127 x128 x129 x130 x131 x132 x133 x134 x135 x136 x137 x138 x139 x140 x141 x142 x143 x144 x145 x146 x147 x148 x149 x150 : Value) (w' : World) (vl' : Value) (l' : List (Nat × Nat)) (row : List Nat), BldU w' wb.heap.size gb gm (.int .i64 L) c1 c4 (.func (.func 90) #[] #[cap4, cap5]) c6 vl' l' → Mid L br l0 l' → l <+: l' → (∀ s ∈ l', P s) → row.length = L → RowOK br l' i j row →
      Blk w' gr 3 (fillC L row) → Kept w w' (fun k => k = gb ∨ k = gm ∨ k = gr ∨ vl.ownBlock = some k) → Moved w vl vl' →
      Q (.exit 8) ⟨List.toArray ((.pointer (some ⟨gb, 0, none⟩)) :: u1 :: u2 :: u3 :: u4 :: u5 :: u6 :: u7 :: u8 :: (.int .i64 i) :: (.int .i64 j) :: (.slice (some ⟨gr, 0, none⟩) L L) :: x12 :: u13 :: u14 :: u15 :: u16 :: u17 :: u18 :: u19 :: u20 :: u21 :: u22 :: u23 :: u24 :: u25 :: u26 :: 
      u27 :: u28 :: u29 :: u30 :: u31 :: u32 :: u33 :: u34 :: u35 :: u36 :: u37 :: u38 :: u39 :: u40 :: u41 :: u42 :: u43 :: u44 :: u45 :: u46 :: u47 :: u48 :: u49 :: u50 :: u51 :: u52 :: u53 :: u54 :: u55 :: u56 :: u57 :: u58 :: u59 :: u60 :: u61 :: u62 :: u63 :: 
      u64 :: u65 :: u66 :: u67 :: u68 :: u69 :: u70 :: u71 :: u72 :: u73 :: u74 :: u75 :: u76 :: u77 :: u78 :: u79 :: u80 :: u81 :: u82 :: u83 :: u84 :: u85 :: u86 :: u87 :: u88 :: u89 :: u90 :: u91 :: u92 :: u93 :: u94 :: u95 :: u96 :: u97 :: u98 :: u99 :: u100 :: 
      u101 :: u102 :: u103 :: u104 :: u105 :: u106 :: u107 :: u108 :: u109 :: u110 :: u111 :: u112 :: u113 :: u114 :: u115 :: u116 :: u117 :: u118 :: u119 :: u120 :: (.int .i64 L) :: x122 :: x123 :: x124 :: x125 :: x126 :: x127 :: x128 :: x129 :: x130 :: x131 :: 
      x132 :: x133 :: x134 :: x135 :: x136 :: x137 :: x138 :: x139 :: x140 :: x141 :: x142 :: x143 :: x144 :: x145 :: x146 :: x147 :: x148 :: x149 :: x150 :: u151 :: u152 :: u153 :: u154 :: u155 :: u156 :: u157 :: u158 :: u159 :: u160 :: u161 :: u162 :: u163 :: u164 :: 
      u165 :: u166 :: u167 :: u168 :: u169 :: u170 :: u171 :: u172 :: u173 :: u174 :: u175 :: u176 :: u177 :: u178 :: u179 :: u180 :: u181 :: u182 :: u183 :: u184 :: u185 :: u186 :: u187 :: u188 :: u189 :: u190 :: u191 :: u192 :: u193 :: u194 :: u195 :: u196 :: []), []⟩ w') :
    (Code.loop (loopBody Try.f92 4)).wp Try.prog Q ⟨List.toArray ((.pointer (some ⟨gb, 0, none⟩)) :: u1 :: u2 :: u3 :: u4 :: u5 :: u6 :: u7 :: u8 :: (.int .i64 i) :: (.int .i64 j) :: (.slice (some ⟨gr, 0, none⟩) L L) :: u12 :: u13 :: u14 :: u15 :: u16 :: u17 :: u18 :: u19 :: u20 :: u21 :: u22 :: u23 :: u24 :: u25 :: u26 :: 
      u27 :: u28 :: u29 :: u30 :: u31 :: u32 :: u33 :: u34 :: u35 :: u36 :: u37 :: u38 :: u39 :: u40 :: u41 :: u42 :: u43 :: u44 :: u45 :: u46 :: u47 :: u48 :: u49 :: u50 :: u51 :: u52 :: u53 :: u54 :: u55 :: u56 :: u57 :: u58 :: u59 :: u60 :: u61 :: u62 :: u63 :: 
      u64 :: u65 :: u66 :: u67 :: u68 :: u69 :: u70 :: u71 :: u72 :: u73 :: u74 :: u75 :: u76 :: u77 :: u78 :: u79 :: u80 :: u81 :: u82 :: u83 :: u84 :: u85 :: u86 :: u87 :: u88 :: u89 :: u90 :: u91 :: u92 :: u93 :: u94 :: u95 :: u96 :: u97 :: u98 :: u99 :: u100 :: 
      u101 :: u102 :: u103 :: u104 :: u105 :: u106 :: u107 :: u108 :: u109 :: u110 :: u111 :: u112 :: u113 :: u114 :: u115 :: u116 :: u117 :: u118 :: u119 :: u120 :: (.int .i64 L) :: (.int .i64 0) :: u123 :: u124 :: u125 :: u126 :: u127 :: u128 :: u129 :: u130 :: 
      u131 :: u132 :: u133 :: u134 :: u135 :: u136 :: u137 :: u138 :: u139 :: u140 :: u141 :: u142 :: u143 :: u144 :: u145 :: u146 :: u147 :: u148 :: u149 :: u150 :: u151 :: u152 :: u153 :: u154 :: u155 :: u156 :: u157 :: u158 :: u159 :: u160 :: u161 :: u162 :: u163 :: 
      u164 :: u165 :: u166 :: u167 :: u168 :: u169 :: u170 :: u171 :: u172 :: u173 :: u174 :: u175 :: u176 :: u177 :: u178 :: u179 :: u180 :: u181 :: u182 :: u183 :: u184 :: u185 :: u186 :: u187 :: u188 :: u189 :: u190 :: u191 :: u192 :: u193 :: u194 :: u195 :: u196 :: 
      []), []⟩ w := by
  conv => arg 2; arg 1; whnf
  go_loopw [122] (fun ii wr => ∃ (row : List Nat) (l' : List (Nat × Nat)) (vl' : Value), ii = .int .i64 (row.length : Int) ∧ row.length ≤ L ∧ BldU wr wb.heap.size gb gm (.int .i64 L) c1 c4 (.func (.func 90) #[] #[cap4, cap5]) c6 vl' l' ∧ Mid L br l0 l' ∧ l <+: l' ∧ (∀ s ∈ l', P s) ∧ RowOK br l' i j row ∧
    Blk wr gr 3 (fillC L row) ∧ Kept w wr (fun k => k = gb ∨ k = gm ∨ k = gr ∨ vl.ownBlock = some k) ∧ Moved w vl vl') (fun ii _ => L - (intOf ii).toNat)
  case atStart => exact ⟨[], l, vl, rfl, Nat.zero_le _, hB, hM, List.prefix_refl _, hP, RowOK.nil, hR, Kept.refl _ _, Moved.refl _ _⟩
  case round =>
    obtain ⟨row, l', vl', rfl, hlen, hB', hM', hpre, hP', hrow, hR', hK', hmv⟩ := hrel
    have hKr := hK.trans hK' (hB.tops hgm hgr)
    have hi := prefix_get hM'.pre hs
    have hj := prefix_get hM'.pre ht
    have hPs := hP' s (List.mem_of_getElem? hi)
    have hPt := hP' t (List.mem_of_getElem? hj)
    have hll := hC.plen l' hM'.nodup hP'
    have hil := lt_of_get hi
    have hjl := lt_of_get hj
    obtain ⟨g, cap, hvl, hgi, hgi2⟩ := own_getP hB'.row hi
    obtain ⟨g', cap', hvl', hgj, hgj2⟩ := own_getP hB'.row hj
    rw [hvl] at hvl'
    injection hvl' with e1 e2 e3
    injection e1 with e1
    injection e1 with e1
    subst e1 e3
    subst hvl
    have hcb := hB'.blk.cell
    have hM2 := hide hM'
    have hPP := hide hP'
    have hpp := hide hpre
    have hrr := hide hrow
    have hHi := hide hi
    have hHj := hide hj
    have hHs := hide hs
    have hHt := hide ht
    clear hM' hP' hpre hrow hi hj hs ht hM hP
    go_wp2_with fail
    · refine Reg.region_plain [0, 0, 0, 0, 8, 24, 56, 0, 0, 256, 768, 1792, 0, 7936, 16128, 0, 32768, 98304, 229376, 0, 1015808, 2064384, 4194296, 8388604, 16777215, 33554431] (by kernel_rfl) (by repeat (first | exact hN | refine Reg.NoQ.then ?_ | refine Reg.NoQ.inBlock ?_)) ?_
      go_wp2_with (first | (go_at_call 90; refine Calls.ret (hC.fb _ hKr.drew row.length s t (by omega) hPs hPt) ?_; rintro v w1 ⟨rfl, hb0⟩; have hb1 : Below wr.heap.size wr w1 := ⟨hb0.os, hb0.tape, hb0.output, hb0.size, hb0.block⟩; clear hb0; have hB1 := hB'.below hb1; have hR1 := hR'.kept (Kept.of_below hb1 fun _ => False) id; have hsz1 := hb1.size) | (go_at_call 110; refine Calls.ret (meetU w1 wb.heap.size gb gm _ c1 c4 _ c6 _ l' (br row.length s t) hB1 (by omega) (Nat.le_trans hKr.size hsz1)) ?_; rintro v w2 ⟨rfl, vl2, hB2, hk2, hmv2⟩; have hR2 := hR1.kept hk2 (hB1.not hR1 (by decide) (by decide)); have hcR := (hR2.cell row.length).trans (fillC_get (by omega)); have hfR := hR2.frozen))
      refine ⟨⟨row ++ [numL (meetL l' (br row.length s t)) (br row.length s t)], _, vl2, by simp, by simp; omega, hB2.setCell (hB2.not hR2 (by decide) (by decide)) _, ?_, hpp.out.trans (prefix_meetL _ _), ?_, ?_, ?_, ?_, (hmv.trans hK'.size (hmv2.of_le hsz1))⟩, by simp [intOf]; omega⟩
      · exact hM2.out.meet (by omega) (List.mem_of_getElem? hHs.out) (List.mem_of_getElem? hHt.out)
      · intro u hu
        rcases mem_meetL.1 hu with hu | rfl
        · exact hPP.out u hu
        · exact hC.pbr _ _ _ (by omega) hPs hPt
      · exact (hrr.out.grow (prefix_meetL _ _)).snoc (prefix_get (prefix_meetL _ _) hHi.out) (prefix_get (prefix_meetL _ _) hHj.out) (get_numL _ _)
      · rw [← fillC_set (by omega)]
        exact hR2.set_ _ _
      · refine Kept.setCell ((hK'.trans (Kept.of_below hb1 fun _ => False) fun _ _ h => h.elim).trans hk2 ?_) (fun _ => .inr (.inr (.inl rfl))) _
        rintro b hb (h1 | h1 | h1)
        · exact .inl h1
        · exact .inr (.inl h1)
        · refine .inr (.inr (.inr ?_))
          rcases hmv with hm | ⟨g1, hm, hg1⟩
          · rw [← hm]; exact h1
          · rw [hm] at h1
            injection h1 with h1
            omega
    · exact hQ _ _ _ _ _ _ _ _ _ _ _ _ _ _ _ _ _ _ _ _ _ _ _ _ _ _ _ _ _ _ wr _ l' row hB' hM2.out hpp.out hPP.out (by omega) hrr.out hR' hK' hmv
end PB
end Go.Proofs.Ytnimlcbgeiajiaa

namespace Go.Proofs.Ytnimlcbgeiajiaa
open Go.RowKit
namespace PB

/-- The memory of a build: the builder, its closures, the machine that grows. -/
structure BWU (wb w : World) (gb gm gM L : Nat) (c1 cap4 cap5 cap6 vl vleaf vbr : Value) (l : List (Nat × Nat)) (lf : List Nat) (t : List (List (List Nat))) : Prop where
  kept : Kept wb w (fun k => k = gb)
  bld : BldU w wb.heap.size gb gm (.int .i64 L) c1 (.func (.func 89) #[] #[cap4, cap5]) (.func (.func 90) #[] #[cap4, cap5]) (.func (.func 91) #[] #[cap6, cap4, cap5]) vl l
  mach : Blk w gM 82 #[.int .i64 L, .slice none 0 0, vleaf, vbr]
  lfs : IntRow w wb.heap.size vleaf lf
  tab : Tab w wb.heap.size vbr t
  gm_ : wb.heap.size ≤ gm
  gM_ : wb.heap.size ≤ gM

section
variable {wb w w' : World} {gb gm gM L : Nat} {c1 cap4 cap5 cap6 vl vl' vleaf vbr : Value} {l l' : List (Nat × Nat)} {lf : List Nat} {t : List (List (List Nat))}
/-- Another list, the same machine. -/
theorem BWU.list (h : BWU wb w gb gm gM L c1 cap4 cap5 cap6 vl vleaf vbr l lf t) (hk : Kept w w' (fun k => k = gb ∨ k = gm ∨ vl.ownBlock = some k))
    (hb : BldU w' wb.heap.size gb gm (.int .i64 L) c1 (.func (.func 89) #[] #[cap4, cap5]) (.func (.func 90) #[] #[cap4, cap5]) (.func (.func 91) #[] #[cap6, cap4, cap5]) vl' l') : BWU wb w' gb gm gM L c1 cap4 cap5 cap6 vl' vleaf vbr l' lf t := by
  have h3 : ∀ (e : TypeId), e ≠ 125 → 118 ≠ e → ∀ g cs, (g = gb ∨ g = gm ∨ vl.ownBlock = some g) → ¬ Blk w g e cs := fun e h1 h2 g cs hx hb => h.bld.not hb h1 h2 hx
  obtain ⟨us, ht⟩ := h.tab.open
  refine ⟨h.kept.trans hk (fun b hb hx => ?_), hb, h.mach.kept hk (h.bld.not h.mach (by decide) (by decide)), own_ty hk h.lfs (h3 3 (by decide) (by decide)),
    (ht.keep hk (h3 3 (by decide) (by decide)) (h3 22 (by decide) (by decide)) fun g hg hx => ?_).close, h.gm_, h.gM_⟩
  · rcases hx with hx | hx | hx
    · exact hx
    · have := h.gm_; omega
    · have := own_base h.bld.row hx; omega
  · rcases ht.own.2 with ⟨rfl, _⟩ | ⟨g', cap, cur, rfl, _, hh, _⟩
    · simp [Value.ownBlock] at hg
    · have : g' = g := by simpa [Value.ownBlock] using hg
      subst this
      exact h3 104 (by decide) (by decide) _ cur hx hh
theorem BWU.below (h : BWU wb w gb gm gM L c1 cap4 cap5 cap6 vl vleaf vbr l lf t) (hb : Below w.heap.size w w') : BWU wb w' gb gm gM L c1 cap4 cap5 cap6 vl vleaf vbr l lf t :=
  h.list (Kept.of_below hb _) (h.bld.below hb)
end

theorem BldU.other {w w' : World} {X : Nat → Prop} {base gb gm : Nat} {c0 c1 c4 c5 c6 vl : Value} {l : List (Nat × Nat)} (h : BldU w base gb gm c0 c1 c4 c5 c6 vl l) (hk : Kept w w' X) (hX : ∀ k, X k → ∃ t cs, Blk w k t cs ∧ t ≠ 125 ∧ 118 ≠ t) : BldU w' base gb gm c0 c1 c4 c5 c6 vl l := by
  have hn : ∀ k, X k → ¬ (k = gb ∨ k = gm ∨ vl.ownBlock = some k) := fun k hx => by
    obtain ⟨t, cs, hb, h1, h2⟩ := hX k hx
    exact h.not hb h1 h2
  exact ⟨h.blk.kept hk fun hx => hn _ hx (.inl rfl), h.map.kept hk fun hx => hn _ hx (.inr (.inl rfl)), hk.ownsRow h.row fun g hg hx => hn _ hx (.inr (.inr hg))⟩
/-- The machine's table changes. -/
theorem BWU.table {wb w w' : World} {X : Nat → Prop} {gb gm gM L : Nat} {c1 cap4 cap5 cap6 vl vleaf vbr vbr' : Value} {l : List (Nat × Nat)} {lf : List Nat} {t t' : List (List (List Nat))} (h : BWU wb w gb gm gM L c1 cap4 cap5 cap6 vl vleaf vbr l lf t) (hk : Kept w w' X)
    (hX : ∀ k, X k → wb.heap.size ≤ k ∧ ∃ t cs, Blk w k t cs ∧ t ≠ 125 ∧ 118 ≠ t ∧ t ≠ 3) (hm : Blk w' gM 82 #[.int .i64 L, .slice none 0 0, vleaf, vbr']) (ht : Tab w' wb.heap.size vbr' t') : BWU wb w' gb gm gM L c1 cap4 cap5 cap6 vl vleaf vbr' l lf t' :=
  ⟨h.kept.trans hk fun b hb hx => by have := (hX b hx).1; omega,
    h.bld.other hk fun k hx => by
      obtain ⟨_, t, cs, hb, h1, h2, _⟩ := hX k hx
      exact ⟨t, cs, hb, h1, h2⟩,
    hm, own_ty hk h.lfs fun g cs hx hb => by
      obtain ⟨_, t, cs', hb', _, _, h3⟩ := hX g hx
      exact hb'.ne_ hb h3 rfl, ht, h.gm_, h.gM_⟩
set_option maxHeartbeats 4000000 in
set_option maxRecDepth 100000 in
theorem bld_rows {wb : World} {gb gm gM L i j0 : Nat} {c1 cap4 cap5 cap6 : Value} {leaf : Nat → Nat × Nat} {br : Nat → Nat × Nat → Nat × Nat → Nat × Nat} {acc : Nat × Nat → Bool} {P : Nat × Nat → Prop} (hC : ClosU wb gb L cap4 cap5 cap6 leaf br acc P)
    {l0 : List (Nat × Nat)} (hl0 : l0.length ≤ 4096) (hL : L ≤ 8) (hi : i < l0.length) (hj0 : j0 ≤ l0.length)
    {w : World} {vl vleaf vbr : Value} {l : List (Nat × Nat)} {lf : List Nat} {t : List (List (List Nat))} (hB : BWU wb w gb gm gM L c1 cap4 cap5 cap6 vl vleaf vbr l lf t) (hM : Mid L br l0 l) (hP : ∀ s ∈ l, P s)
    {cnt : Nat → Nat} (hc : cnt i = j0) (hit : i < t.length) (hT : TabOK L br l cnt t)
    {u1 u2 u4 u5 u6 u7 u11 u12 u13 u14 u15 u16 u17 u18 u19 u20 u21 u22 u23 u24 u25 u26 u27 u28 u29 u30 u31 u32 u33 u34 u35 u36 u37 u38 u39 u40 u41 u42 u43 u44 u45 u46 u47 u48 u49 u50 u51 u52 u53 u54 u55 u56 u57 u58 u59 u60 u61 u62 u63 u64 u65 u66 u67 u68 u69 u70 u71 u72 u73 u74 u75 u76 u77 u78 u79 u80 u81 u82 u83 u84 u85 u86 u87 u88 u89 u90 u91 u92 u93 u94 u95 u96 u97 u98 u99 u100 u101 u102 u103 u104 u105 u106 u107 u108 u109 u110 u111 u112 u113 u114 u115 u116 u117 u118 u119 u120 u121 u122 u123 u124 u125 u126 u127 u128 u129 u130 u131 u132 u133 u134 u135 u136 u137 u138 u139 u140 u141 u142 u143 u144 u145 u146 u147 u148 u149 u150 u151 u152 u153 u154 u155 u156 u157 u158 u159 u160 u161 u162 u163 u164 u165 u166 u167 u168 u169 u170 u171 u172 u173 u174 u175 u176 u177 u178 u179 u180 u181 u182 u183 u184 u185 u186 u187 u188 u189 u190 u191 u192 u193 u194 u195 u196 : Value}
    {Q : Exit → Act → World → Prop} (hN : Reg.NoQ Q)
    (hQ : ∀ (x10 x11 x12 x110 x111 x112 x113 x114 x115 x116 x117 x118 x119 x120 x121 x122 x123 x124 x125 x126 x127 x128 x129 x130 x131 x132 x133 x134 x135 x136 x137 x138 x139 x140 x141 x142 x143 x144 x145 x146 x147 x148 x149 x150 x151 x152 x153 x154 x155 x156 x157 x158 x159 x160 x161 x162 x163 x164 x165 x166 : Value) (w' : World) (vl' : Value) (l' : List (Nat × Nat)) (t' : List (List (List Nat))), BWU wb w' gb gm gM L c1 cap4 cap5 cap6 vl' vleaf vbr l' lf t' → Mid L br l0 l' → l <+: l' → (∀ s ∈ l', P s) →
      TabOK L br l' (upd cnt i l0.length) t' → t'.length = t.length →
      Q (.exit 6) ⟨List.toArray ((.pointer (some ⟨gb, 0, none⟩)) :: u1 :: u2 :: (.pointer (some ⟨gM, 0, none⟩)) :: u4 :: u5 :: u6 :: u7 :: (.int .i64 l0.length) :: (.int .i64 i) :: x10 :: x11 :: x12 :: u13 :: u14 :: u15 :: u16 :: u17 :: u18 :: u19 :: u20 :: u21 :: u22 :: u23 :: u24 :: u25 :: 
      u26 :: u27 :: u28 :: u29 :: u30 :: u31 :: u32 :: u33 :: u34 :: u35 :: u36 :: u37 :: u38 :: u39 :: u40 :: u41 :: u42 :: u43 :: u44 :: u45 :: u46 :: u47 :: u48 :: u49 :: u50 :: u51 :: u52 :: u53 :: u54 :: u55 :: u56 :: u57 :: u58 :: u59 :: u60 :: u61 :: u62 :: 
      u63 :: u64 :: u65 :: u66 :: u67 :: u68 :: u69 :: u70 :: u71 :: u72 :: u73 :: u74 :: u75 :: u76 :: u77 :: u78 :: u79 :: u80 :: u81 :: u82 :: u83 :: u84 :: u85 :: u86 :: u87 :: u88 :: u89 :: u90 :: u91 :: u92 :: u93 :: u94 :: u95 :: u96 :: u97 :: u98 :: u99 :: 
      u100 :: u101 :: u102 :: u103 :: u104 :: u105 :: u106 :: u107 :: u108 :: u109 :: x110 :: x111 :: x112 :: x113 :: x114 :: x115 :: x116 :: x117 :: x118 :: x119 :: x120 :: x121 :: x122 :: x123 :: x124 :: x125 :: x126 :: x127 :: x128 :: x129 :: x130 :: x131 :: x132 :: 
      x133 :: x134 :: x135 :: x136 :: x137 :: x138 :: x139 :: x140 :: x141 :: x142 :: x143 :: x144 :: x145 :: x146 :: x147 :: x148 :: x149 :: x150 :: x151 :: x152 :: x153 :: x154 :: x155 :: x156 :: x157 :: x158 :: x159 :: x160 :: x161 :: x162 :: x163 :: x164 :: x165 :: 
      x166 :: u167 :: u168 :: u169 :: u170 :: u171 :: u172 :: u173 :: u174 :: u175 :: u176 :: u177 :: u178 :: u179 :: u180 :: u181 :: u182 :: u183 :: u184 :: u185 :: u186 :: u187 :: u188 :: u189 :: u190 :: u191 :: u192 :: u193 :: u194 :: u195 :: u196 :: []), []⟩ w') :
    (Code.loop (loopBody Try.f92 3)).wp Try.prog Q ⟨List.toArray ((.pointer (some ⟨gb, 0, none⟩)) :: u1 :: u2 :: (.pointer (some ⟨gM, 0, none⟩)) :: u4 :: u5 :: u6 :: u7 :: (.int .i64 l0.length) :: (.int .i64 i) :: (.int .i64 j0) :: u11 :: u12 :: u13 :: u14 :: u15 :: u16 :: u17 :: u18 :: u19 :: u20 :: u21 :: u22 :: u23 :: u24 :: 
      u25 :: u26 :: u27 :: u28 :: u29 :: u30 :: u31 :: u32 :: u33 :: u34 :: u35 :: u36 :: u37 :: u38 :: u39 :: u40 :: u41 :: u42 :: u43 :: u44 :: u45 :: u46 :: u47 :: u48 :: u49 :: u50 :: u51 :: u52 :: u53 :: u54 :: u55 :: u56 :: u57 :: u58 :: u59 :: u60 :: u61 :: 
      u62 :: u63 :: u64 :: u65 :: u66 :: u67 :: u68 :: u69 :: u70 :: u71 :: u72 :: u73 :: u74 :: u75 :: u76 :: u77 :: u78 :: u79 :: u80 :: u81 :: u82 :: u83 :: u84 :: u85 :: u86 :: u87 :: u88 :: u89 :: u90 :: u91 :: u92 :: u93 :: u94 :: u95 :: u96 :: u97 :: u98 :: 
      u99 :: u100 :: u101 :: u102 :: u103 :: u104 :: u105 :: u106 :: u107 :: u108 :: u109 :: u110 :: u111 :: u112 :: u113 :: u114 :: u115 :: u116 :: u117 :: u118 :: u119 :: u120 :: u121 :: u122 :: u123 :: u124 :: u125 :: u126 :: u127 :: u128 :: u129 :: u130 :: u131 :: 
      u132 :: u133 :: u134 :: u135 :: u136 :: u137 :: u138 :: u139 :: u140 :: u141 :: u142 :: u143 :: u144 :: u145 :: u146 :: u147 :: u148 :: u149 :: u150 :: u151 :: u152 :: u153 :: u154 :: u155 :: u156 :: u157 :: u158 :: u159 :: u160 :: u161 :: u162 :: u163 :: u164 :: 
      u165 :: u166 :: u167 :: u168 :: u169 :: u170 :: u171 :: u172 :: u173 :: u174 :: u175 :: u176 :: u177 :: u178 :: u179 :: u180 :: u181 :: u182 :: u183 :: u184 :: u185 :: u186 :: u187 :: u188 :: u189 :: u190 :: u191 :: u192 :: u193 :: u194 :: u195 :: u196 :: []), []⟩ w := by
  conv => arg 2; arg 1; whnf
  go_loopw [10] (fun jj wr => ∃ (j : Nat) (l' : List (Nat × Nat)) (vl' : Value) (t' : List (List (List Nat))), jj = .int .i64 (j : Int) ∧ j ≤ l0.length ∧ BWU wb wr gb gm gM L c1 cap4 cap5 cap6 vl' vleaf vbr l' lf t' ∧ Mid L br l0 l' ∧ l <+: l' ∧ (∀ s ∈ l', P s) ∧
    TabOK L br l' (upd cnt i j) t' ∧ t'.length = t.length) (fun jj _ => l0.length - (intOf jj).toNat)
  case atStart =>
    refine ⟨j0, l, vl, t, rfl, hj0, hB, hM, List.prefix_refl _, hP, ?_, rfl⟩
    have e : upd cnt i j0 = cnt := by funext k; unfold upd; split <;> simp_all
    rw [e]; exact hT
  case round =>
    obtain ⟨j, l', vl', t', rfl, hj, hB', hM', hpre, hP', hT', htl⟩ := hrel
    have hcb := hB'.bld.blk.cell
    have hM2 := hide hM'
    have hPP := hide hP'
    have hpp := hide hpre
    have hTT := hide hT'
    have hTL := hide htl
    obtain ⟨gr, w1, hmk, hR, hb1, hgr⟩ := mk_row wr L (by omega)
    rw [← fillC_nil] at hR
    have hwb := hB'.kept.size
    have hK1 := hB'.kept.trans (Kept.of_below hb1 fun k => k = gb) fun _ _ h => h
    have hB1 := hB'.bld.below hb1
    have hHi := hide hi
    clear hM' hP' hpre hM hP hT hT' htl
    go_wp2_with fail
    · refine bld_fill hC hL (List.getElem?_eq_getElem (by omega : i < l0.length)) (List.getElem?_eq_getElem (by omega : j < l0.length)) hK1 hB1 hM2.out hPP.out hR (by omega) hB'.gm_ ?_ ?_
      · repeat (first | exact hN | refine Reg.NoQ.then ?_ | refine Reg.NoQ.inBlock ?_)
      · iterate 30 (intro _)
        intro w2 vl2 l2 row hB2 hM3 hpre2 hP2 hrl hrow hR2 hk2 hmv2
        have hks : Kept wr w2 (fun k => k = gb ∨ k = gm ∨ vl'.ownBlock = some k) := (Kept.of_below hb1 _).trans hk2 (by
          rintro b hb (h1 | h1 | h1 | h1)
          · exact .inl h1
          · exact .inr (.inl h1)
          · omega
          · exact .inr (.inr h1))
        have hB3 := hB'.list hks hB2
        obtain ⟨us, hu⟩ := hB3.tab.open
        have hil : i < t'.length := by rw [hTL.out]; exact hit
        have hul := hu.len
        obtain ⟨r, hri⟩ : ∃ r, t'[i]? = some r := ⟨_, List.getElem?_eq_getElem hil⟩
        obtain ⟨ui, hui⟩ : ∃ ui, us[i]? = some ui := ⟨_, List.getElem?_eq_getElem (by omega)⟩
        obtain ⟨uis, hr1, hr2, hr3⟩ := hu.row i ui r hui hri
        obtain ⟨gv, cap, rfl, hci⟩ := own_get hu.own hui
        obtain ⟨Ai, ci, rfl⟩ := slice_of_own hr2
        have hcm := hB3.mach.cell
        have hMM := hide hM3
        have hPP2 := hide hP2
        have hpp2 := hide hpre2
        have hrr := hide hrow
        have hrl64 : r.length ≤ 4096 := by have := (hTT.out i r hri).1; simp [upd] at this; omega
        have hwb2 := hB3.kept.size
        have hHri := hide hri
        have hHui := hide hui
        have hHrl := hide hrl
        have hHul := hide hul
        have hHr1 := hide hr1
        clear hM3 hP2 hpre2 hrow hri hui hrl hul hr1 hcb hmk
        go_wp2_with fail
        refine Reg.region_cut [0, 1, 3, 7, 0, 0, 32, 96, 224, 0, 992, 2016, 0, 4096, 16352, 32767, 65535] [0, 1, 2, 3, 4, 5, 6, 7, 8, 9, 10, 11, 12, 13, 14, 15, 16] (by kernel_rfl) (by repeat (first | exact hN | refine Reg.NoQ.then ?_ | refine Reg.NoQ.inBlock ?_)) ?_
        refine Reg.rest_walk' [0, 1, 2, 3, 4, 5, 6, 7, 8, 9, 10, 11, 12, 13] [14, 15, 16] rfl (by kernel_rfl) ?_
        intro Qf hQf
        go_wp2_with fail
        rw [List.filterMap_nil]
        go_wp2_with fail
        refine Reg.rest_act' 14 [15, 16] [3] rfl (by kernel_rfl) ?_
        intro Qf hQf
        simp only [List.getElem_toArray, List.getElem_cons_succ, List.getElem_cons_zero]
        refine wpList_app_new (w := w2.drew) row104 rfl _ _ rfl wb.heap.size (.slice Ai r.length ci) r.length uis rfl hr2 [.slice (some ⟨gr, 0, none⟩) L L] 1 rfl rfl (by simp [Value.oneCell']) (by omega) hwb2 ?_
        intro g cap' w3 hown hk3 hmv3 hg3
        have hk4 : Kept w2 w3 (fun k => (Value.slice Ai r.length ci).ownBlock = some k) := ⟨hk3.os, hk3.tape, hk3.output, hk3.size, hk3.block⟩
        clear hk3
        have hu4 : TabU (w3.setCell ⟨gv, i, none⟩ (.slice (some ⟨g, 0, none⟩) (r.length + 1) cap')) wb.heap.size (.slice (some ⟨gv, 0, none⟩) t'.length cap) (us.set i (.slice (some ⟨g, 0, none⟩) (r.length + 1) cap')) (t'.set i (r ++ [row])) :=
          hu.add rfl hHui.out hHri.out hHr1.out hr2 hr3 (fillC_full hR2 hHrl.out (by omega) hL) hk4 hown hmv3
        have hm1 : Blk ((w2.alloc (.cells #[.slice (some ⟨gr, 0, none⟩) L L] 22)).drew) gM 82 _ := hB3.mach.kept ((Kept.refl w2 (fun _ => False)).alloc _).drew id
        have hm3 : Blk w3 gM 82 _ := hB3.mach.kept hk4 (fun e => own_blk_ne hr2 hB3.mach (by decide) e)
        have hv3 := own_ty hk4 hu.own (not_blk hr2 (by decide))
        have hcv := own_cell hv3 hHui.out
        have hfv := own_frozen hv3 i
        refine hQf _ _ ⟨?_, ?_⟩
        · intro z hz q hq
          simp only [List.mem_singleton] at hz
          subst hz
          injection hq with hq
          subst hq
          exact Reg.same_load1 rfl rfl (hm1.cell 3) (hm3.cell 3) Try.underlying80 rfl
        · refine Reg.rest_walk' [15, 16] [] rfl (by kernel_rfl) ?_
          clear hQf
          intro Qf hQf
          go_wp2_with fail
          rw [List.filterMap_nil]
          go_wp2_with fail
          refine Reg.rest_end ?_
          go_wp2_with fail
          have hX : ∀ k, ((Value.slice Ai r.length ci).ownBlock = some k ∨ k = gv) → wb.heap.size ≤ k ∧ ∃ t cs, Blk w2 k t cs ∧ t ≠ 125 ∧ 118 ≠ t ∧ t ≠ 3 := by
            rintro k (hk | rfl)
            · obtain ⟨cs, hb⟩ := own_blk hr2 hk
              exact ⟨own_base hr2 hk, 22, cs, hb, by decide, by decide, by decide⟩
            · obtain ⟨cs, hb⟩ := own_blk hu.own (k := k) rfl
              exact ⟨own_base hu.own (k := k) rfl, 104, cs, hb, by decide, by decide, by decide⟩
          have hk5 : Kept w2 (w3.setCell ⟨gv, i, none⟩ (.slice (some ⟨g, 0, none⟩) (r.length + 1) cap')) (fun k => (Value.slice Ai r.length ci).ownBlock = some k ∨ k = gv) := (hk4.mono fun _ _ h => .inl h).setCell (fun _ => .inr rfl) _
          have hm5 := hm3.kept ((Kept.refl w3 (fun k => k = gv)).setCell (p := ⟨gv, i, none⟩) (fun _ => rfl) (.slice (some ⟨g, 0, none⟩) (r.length + 1) cap')) (fun e => own_blk_ne hv3 hm3 (by decide) (by rw [e]; rfl))
          refine ⟨⟨j + 1, l2, vl2, t'.set i (r ++ [row]), by simp, by omega, hB3.table hk5 hX hm5 hu4.close, hMM.out, hpp.out.trans hpp2.out, hPP2.out, ?_, by simp [hTL.out]⟩, by simp [intOf]; omega⟩
          exact (hTT.out.grow hpp2.out).set hHri.out hHrl.out hrr.out
    · have e : j = l0.length := by omega
      subst e
      exact hQ _ _ _ _ _ _ _ _ _ _ _ _ _ _ _ _ _ _ _ _ _ _ _ _ _ _ _ _ _ _ _ _ _ _ _ _ _ _ _ _ _ _ _ _ _ _ _ _ _ _ _ _ _ _ _ _ _ _ _ _ wr vl' l' t' hB' hM2.out hpp.out hPP.out hTT.out hTL.out
end PB
end Go.Proofs.Ytnimlcbgeiajiaa

namespace Go.Proofs.Ytnimlcbgeiajiaa
open Go.RowKit
namespace PB

set_option maxHeartbeats 4000000 in
set_option maxRecDepth 100000 in
theorem bld_lines {wb : World} {gb gm gM L n0 : Nat} {c1 cap4 cap5 cap6 : Value} {leaf : Nat → Nat × Nat} {br : Nat → Nat × Nat → Nat × Nat → Nat × Nat} {acc : Nat × Nat → Bool} {P : Nat × Nat → Prop} (hC : ClosU wb gb L cap4 cap5 cap6 leaf br acc P)
    {l0 : List (Nat × Nat)} (hl0 : l0.length ≤ 4096) (hL : L ≤ 8) (hn0 : n0 ≤ l0.length)
    {w : World} {vl vleaf vbr : Value} {l : List (Nat × Nat)} {lf : List Nat} {t : List (List (List Nat))} (hB : BWU wb w gb gm gM L c1 cap4 cap5 cap6 vl vleaf vbr l lf t) (hM : Mid L br l0 l) (hP : ∀ s ∈ l, P s)
    (htl : t.length = n0) (hT : TabOK L br l (fun _ => n0) t)
    {u1 u2 u4 u5 u6 u7 u9 u10 u11 u12 u13 u14 u15 u16 u17 u18 u19 u20 u21 u22 u23 u24 u25 u26 u27 u28 u29 u30 u31 u32 u33 u34 u35 u36 u37 u38 u39 u40 u41 u42 u43 u44 u45 u46 u47 u48 u49 u50 u51 u52 u53 u54 u55 u56 u57 u58 u59 u60 u61 u62 u63 u64 u65 u66 u67 u68 u69 u70 u71 u72 u73 u74 u75 u76 u77 u78 u79 u80 u81 u84 u85 u86 u87 u88 u89 u90 u91 u92 u93 u94 u95 u96 u97 u98 u99 u100 u101 u102 u103 u104 u105 u106 u107 u108 u109 u110 u111 u112 u113 u114 u115 u116 u117 u118 u119 u120 u121 u122 u123 u124 u125 u126 u127 u128 u129 u130 u131 u132 u133 u134 u135 u136 u137 u138 u139 u140 u141 u142 u143 u144 u145 u146 u147 u148 u149 u150 u151 u152 u153 u154 u155 u156 u157 u158 u159 u160 u161 u162 u163 u164 u165 u166 u167 u168 u169 u170 u171 u172 u173 u174 u175 u176 u177 u178 u179 u180 u181 u182 u183 u184 u185 u186 u187 u188 u189 u190 u191 u192 u193 u194 u195 u196 : Value}
    {Q : Exit → Act → World → Prop} (hN : Reg.NoQ Q)
    (hQ : ∀ (x9 x10 x11 x12 x83 x84 x85 x86 x87 x88 x89 x90 x91 x92 x93 x94 x95 x96 x97 x98 x99 x100 x101 x102 x103 x104 x105 x106 x107 x108 x109 x110 x111 x112 x113 x114 x115 x116 x117 x118 x119 x120 x121 x122 x123 x124 x125 x126 x127 x128 x129 x130 x131 x132 x133 x134 x135 x136 x137 x138 x139 x140 x141 x142 x143 x144 x145 x146 x147 x148 x149 x150 x151 x152 x153 x154 x155 x156 x157 x158 x159 x160 x161 x162 x163 x164 x165 x166 x167 : Value) (w' : World) (vl' vbr' : Value) (l' : List (Nat × Nat)) (t' : List (List (List Nat))), BWU wb w' gb gm gM L c1 cap4 cap5 cap6 vl' vleaf vbr' l' lf t' → Mid L br l0 l' → l <+: l' → (∀ s ∈ l', P s) →
      TabOK L br l' (fun _ => l0.length) t' → t'.length = l0.length →
      Q (.exit 4) ⟨List.toArray ((.pointer (some ⟨gb, 0, none⟩)) :: u1 :: u2 :: (.pointer (some ⟨gM, 0, none⟩)) :: u4 :: u5 :: u6 :: u7 :: (.int .i64 l0.length) :: x9 :: x10 :: x11 :: x12 :: u13 :: u14 :: u15 :: u16 :: u17 :: u18 :: u19 :: u20 :: u21 :: u22 :: u23 :: u24 :: u25 :: u26 :: u27 :: 
      u28 :: u29 :: u30 :: u31 :: u32 :: u33 :: u34 :: u35 :: u36 :: u37 :: u38 :: u39 :: u40 :: u41 :: u42 :: u43 :: u44 :: u45 :: u46 :: u47 :: u48 :: u49 :: u50 :: u51 :: u52 :: u53 :: u54 :: u55 :: u56 :: u57 :: u58 :: u59 :: u60 :: u61 :: u62 :: u63 :: u64 :: 
      u65 :: u66 :: u67 :: u68 :: u69 :: u70 :: u71 :: u72 :: u73 :: u74 :: u75 :: u76 :: u77 :: u78 :: u79 :: u80 :: u81 :: (.int .i64 l0.length) :: x83 :: x84 :: x85 :: x86 :: x87 :: x88 :: x89 :: x90 :: x91 :: x92 :: x93 :: x94 :: x95 :: x96 :: x97 :: x98 :: x99 :: 
      x100 :: x101 :: x102 :: x103 :: x104 :: x105 :: x106 :: x107 :: x108 :: x109 :: x110 :: x111 :: x112 :: x113 :: x114 :: x115 :: x116 :: x117 :: x118 :: x119 :: x120 :: x121 :: x122 :: x123 :: x124 :: x125 :: x126 :: x127 :: x128 :: x129 :: x130 :: x131 :: x132 :: 
      x133 :: x134 :: x135 :: x136 :: x137 :: x138 :: x139 :: x140 :: x141 :: x142 :: x143 :: x144 :: x145 :: x146 :: x147 :: x148 :: x149 :: x150 :: x151 :: x152 :: x153 :: x154 :: x155 :: x156 :: x157 :: x158 :: x159 :: x160 :: x161 :: x162 :: x163 :: x164 :: x165 :: 
      x166 :: x167 :: u168 :: u169 :: u170 :: u171 :: u172 :: u173 :: u174 :: u175 :: u176 :: u177 :: u178 :: u179 :: u180 :: u181 :: u182 :: u183 :: u184 :: u185 :: u186 :: u187 :: u188 :: u189 :: u190 :: u191 :: u192 :: u193 :: u194 :: u195 :: u196 :: []), []⟩ w') :
    (Code.loop (loopBody Try.f92 2)).wp Try.prog Q ⟨List.toArray ((.pointer (some ⟨gb, 0, none⟩)) :: u1 :: u2 :: (.pointer (some ⟨gM, 0, none⟩)) :: u4 :: u5 :: u6 :: u7 :: (.int .i64 l0.length) :: u9 :: u10 :: u11 :: u12 :: u13 :: u14 :: u15 :: u16 :: u17 :: u18 :: u19 :: u20 :: u21 :: u22 :: u23 :: u24 :: u25 :: u26 :: u27 :: 
      u28 :: u29 :: u30 :: u31 :: u32 :: u33 :: u34 :: u35 :: u36 :: u37 :: u38 :: u39 :: u40 :: u41 :: u42 :: u43 :: u44 :: u45 :: u46 :: u47 :: u48 :: u49 :: u50 :: u51 :: u52 :: u53 :: u54 :: u55 :: u56 :: u57 :: u58 :: u59 :: u60 :: u61 :: u62 :: u63 :: u64 :: 
      u65 :: u66 :: u67 :: u68 :: u69 :: u70 :: u71 :: u72 :: u73 :: u74 :: u75 :: u76 :: u77 :: u78 :: u79 :: u80 :: u81 :: (.int .i64 l0.length) :: (.int .i64 0) :: u84 :: u85 :: u86 :: u87 :: u88 :: u89 :: u90 :: u91 :: u92 :: u93 :: u94 :: u95 :: u96 :: u97 :: 
      u98 :: u99 :: u100 :: u101 :: u102 :: u103 :: u104 :: u105 :: u106 :: u107 :: u108 :: u109 :: u110 :: u111 :: u112 :: u113 :: u114 :: u115 :: u116 :: u117 :: u118 :: u119 :: u120 :: u121 :: u122 :: u123 :: u124 :: u125 :: u126 :: u127 :: u128 :: u129 :: u130 :: 
      u131 :: u132 :: u133 :: u134 :: u135 :: u136 :: u137 :: u138 :: u139 :: u140 :: u141 :: u142 :: u143 :: u144 :: u145 :: u146 :: u147 :: u148 :: u149 :: u150 :: u151 :: u152 :: u153 :: u154 :: u155 :: u156 :: u157 :: u158 :: u159 :: u160 :: u161 :: u162 :: u163 :: 
      u164 :: u165 :: u166 :: u167 :: u168 :: u169 :: u170 :: u171 :: u172 :: u173 :: u174 :: u175 :: u176 :: u177 :: u178 :: u179 :: u180 :: u181 :: u182 :: u183 :: u184 :: u185 :: u186 :: u187 :: u188 :: u189 :: u190 :: u191 :: u192 :: u193 :: u194 :: u195 :: u196 :: 
      []), []⟩ w := by
  conv => arg 2; arg 1; whnf
  go_loopw [83] (fun ii wr => ∃ (i : Nat) (l' : List (Nat × Nat)) (vl' vbr' : Value) (t' : List (List (List Nat))), ii = .int .i64 (i : Int) ∧ i ≤ l0.length ∧ BWU wb wr gb gm gM L c1 cap4 cap5 cap6 vl' vleaf vbr' l' lf t' ∧ Mid L br l0 l' ∧ l <+: l' ∧ (∀ s ∈ l', P s) ∧
    TabOK L br l' (lcnt l0.length n0 i) t' ∧ t'.length = max n0 i) (fun ii _ => l0.length - (intOf ii).toNat)
  case atStart => exact ⟨0, l, vl, vbr, t, rfl, Nat.zero_le _, hB, hM, List.prefix_refl _, hP, hT.congr (fun k _ => by simp [lcnt]), by omega⟩
  case round =>
    obtain ⟨i, l', vl', vbr', t', rfl, hi, hB', hM', hpre, hP', hT', htl'⟩ := hrel
    obtain ⟨us, hu⟩ := hB'.tab.open
    obtain ⟨A, c, rfl⟩ := slice_of_own hu.own
    have hcm := hB'.mach.cell
    have hM2 := hide hM'
    have hPP := hide hP'
    have hpp := hide hpre
    have hTT := hide hT'
    have hTL := hide htl'
    clear hM' hP' hpre hM hP hT hT' htl'
    have hwb := hB'.kept.size
    by_cases hlt : i < t'.length
    · have hul := hu.len
      obtain ⟨r, hri⟩ : ∃ r, t'[i]? = some r := ⟨_, List.getElem?_eq_getElem hlt⟩
      obtain ⟨ui, hui⟩ : ∃ ui, us[i]? = some ui := ⟨_, List.getElem?_eq_getElem (by omega)⟩
      obtain ⟨uis, hr1, hr2, hr3⟩ := hu.row i ui r hui hri
      obtain ⟨gv, cap, hvb, hci⟩ := own_get hu.own hui
      injection hvb with e1 e2 e3
      subst e1 e3
      obtain ⟨Ai, ci, rfl⟩ := slice_of_own hr2
      have hrn : r.length = lcnt l0.length n0 i i := (hTT.out i r hri).1
      have hrl : r.length ≤ l0.length := by rw [hrn]; unfold lcnt; split <;> omega
      have hHrn := hide hrn
      have hHri := hide hri
      clear hui hr1 hri hrn hul e2
      go_wp2_with fail
      · refine bld_rows hC hl0 hL (by omega) hrl hB' hM2.out hPP.out hHrn.out.symm hlt hTT.out ?_ ?_
        · repeat (first | exact hN | refine Reg.NoQ.then ?_ | refine Reg.NoQ.inBlock ?_)
        · iterate 60 (intro _)
          intro w2 vl2 l2 t2 hB2 hM3 hpre2 hP2 hT2 htl2
          have hMM := hide hM3
          have hPP2 := hide hP2
          have hpp2 := hide hpre2
          have hTT2 := hide hT2
          have hTL2 := hide htl2
          clear hM3 hP2 hpre2 hT2 htl2
          go_wp2_with fail
          refine ⟨⟨i + 1, l2, vl2, _, t2, by simp, by omega, hB2, hMM.out, hpp.out.trans hpp2.out, hPP2.out, ?_, by rw [hTL2.out]; have := hTL.out; omega⟩, by simp [intOf]; omega⟩
          refine hTT2.out.congr fun k _ => ?_
          simp only [upd, lcnt]
          (repeat' split) <;> omega
      · have e : i = l0.length := by omega
        subst e
        exact hQ _ _ _ _ _ _ _ _ _ _ _ _ _ _ _ _ _ _ _ _ _ _ _ _ _ _ _ _ _ _ _ _ _ _ _ _ _ _ _ _ _ _ _ _ _ _ _ _ _ _ _ _ _ _ _ _ _ _ _ _ _ _ _ _ _ _ _ _ _ _ _ _ _ _ _ _ _ _ _ _ _ _ _ _ _ _ _ _ _ wr vl' _ l' t' hB' hM2.out hpp.out hPP.out (hTT.out.congr fun k hk => by have := hTL.out; simp [lcnt]; omega) (by have := hTL.out; omega)
    · have hti : t'.length = i := by have := hTL.out; omega
      subst hti
      go_wp2_with (at_builtin; refine wpList_app_new row80 rfl _ _ rfl wb.heap.size (.slice A t'.length c) t'.length us rfl hu.own [.slice none 0 0] 1 rfl rfl (by simp [Value.oneCell']) (by omega) hwb ?_; intro g cap' w3 hown hk3 hmv3 hg3; have hm3 := hB'.mach.kept hk3 (fun e => own_blk_ne hu.own hB'.mach (by decide) e); have hcm3 := hm3.cell; have hfm3 := hm3.frozen; have hcg : ∀ u, (w3.setCell ⟨gM, 3, none⟩ u).cell? ⟨g, t'.length, none⟩ = some (.slice none 0 0) := fun u => own_cell (own_ty ((Kept.refl w3 (fun k => k = gM)).setCell (p := ⟨gM, 3, none⟩) (fun _ => rfl) u) hown (fun k cs e hb => by subst e; exact hm3.ne_ hb (by decide) rfl)) (by rw [← hu.len]; simp))
      · have hu3 := hu.push hk3 hown
        have hks := (Kept.refl w3 (fun k => k = gM)).setCell (p := ⟨gM, 3, none⟩) (fun _ => rfl) (.slice (some ⟨g, 0, none⟩) (t'.length + 1) cap')
        have hg82 : ∀ (e : TypeId), e ≠ 82 → ∀ k cs, k = gM → ¬ Blk w3 k e cs := fun e he k cs ek hb => by subst ek; exact hm3.ne_ hb (fun h => he h.symm) rfl
        have hu4 := hu3.keep hks (hg82 3 (by decide)) (hg82 22 (by decide)) (fun k hk ek => hg82 104 (by decide) k _ ek (own_blk hown hk).choose_spec)
        have hX : ∀ k, ((Value.slice A t'.length c).ownBlock = some k ∨ k = gM) → wb.heap.size ≤ k ∧ ∃ t cs, Blk wr k t cs ∧ t ≠ 125 ∧ 118 ≠ t ∧ t ≠ 3 := by
          rintro k (hk | rfl)
          · obtain ⟨cs, hb⟩ := own_blk hu.own hk
            exact ⟨own_base hu.own hk, 104, cs, hb, by decide, by decide, by decide⟩
          · exact ⟨hB'.gM_, 82, _, hB'.mach, by decide, by decide, by decide⟩
        have hk5 := (hk3.mono (Y := fun k => (Value.slice A t'.length c).ownBlock = some k ∨ k = gM) fun _ _ h => .inl h).setCell (p := ⟨gM, 3, none⟩) (fun _ => .inr rfl) (.slice (some ⟨g, 0, none⟩) (t'.length + 1) cap')
        have hB4 := hB'.table hk5 hX (hm3.set_ 3 _) hu4.close
        refine bld_rows (j0 := 0) hC hl0 hL (by omega) (Nat.zero_le _) hB4 hM2.out hPP.out (cnt := upd (lcnt l0.length n0 t'.length) t'.length 0) (by simp [upd]) (by simp) hTT.out.push ?_ ?_
        · repeat (first | exact hN | refine Reg.NoQ.then ?_ | refine Reg.NoQ.inBlock ?_)
        · iterate 60 (intro _)
          intro w2 vl2 l2 t2 hB2 hM3 hpre2 hP2 hT2 htl2
          have hMM := hide hM3
          have hPP2 := hide hP2
          have hpp2 := hide hpre2
          have hTT2 := hide hT2
          have hTL2 := hide htl2
          clear hM3 hP2 hpre2 hT2 htl2
          go_wp2_with fail
          refine ⟨⟨t'.length + 1, l2, vl2, _, t2, by simp, by omega, hB2, hMM.out, hpp.out.trans hpp2.out, hPP2.out, ?_, by rw [hTL2.out]; have := hTL.out; simp; omega⟩, by simp [intOf]; omega⟩
          refine hTT2.out.congr fun k _ => ?_
          simp only [upd, lcnt]
          (repeat' split) <;> omega
      · have e : t'.length = l0.length := by omega
        exact hQ _ _ _ _ _ _ _ _ _ _ _ _ _ _ _ _ _ _ _ _ _ _ _ _ _ _ _ _ _ _ _ _ _ _ _ _ _ _ _ _ _ _ _ _ _ _ _ _ _ _ _ _ _ _ _ _ _ _ _ _ _ _ _ _ _ _ _ _ _ _ _ _ _ _ _ _ _ _ _ _ _ _ _ _ _ _ _ _ _ wr vl' _ l' t' hB' hM2.out hpp.out hPP.out (hTT.out.congr fun k hk => by have := hTL.out; simp [lcnt]; omega) e
end PB
end Go.Proofs.Ytnimlcbgeiajiaa

namespace Go.Proofs.Ytnimlcbgeiajiaa
open Go.RowKit
namespace PB

theorem BWU.drew {wb w : World} {gb gm gM L : Nat} {c1 cap4 cap5 cap6 vl vleaf vbr : Value} {l : List (Nat × Nat)} {lf : List Nat} {t : List (List (List Nat))} (h : BWU wb w gb gm gM L c1 cap4 cap5 cap6 vl vleaf vbr l lf t) : BWU wb w.drew gb gm gM L c1 cap4 cap5 cap6 vl vleaf vbr l lf t :=
  h.below ⟨rfl, rfl, rfl, Nat.le_refl _, fun _ _ => rfl⟩

set_option maxHeartbeats 4000000 in
set_option maxRecDepth 100000 in
theorem bld_rounds {wb : World} {gb gm gM L : Nat} {cap4 cap5 cap6 : Value} {leaf : Nat → Nat × Nat} {br : Nat → Nat × Nat → Nat × Nat → Nat × Nat} {acc : Nat × Nat → Bool} {P : Nat × Nat → Prop} (hC : ClosU wb gb L cap4 cap5 cap6 leaf br acc P)
    (hL : L ≤ 8)
    {w : World} {vl vleaf : Value} {l : List (Nat × Nat)} {lf : List Nat} (hB : BWU wb w gb gm gM L (.int .i64 0) cap4 cap5 cap6 vl vleaf (.slice none 0 0) l lf []) (hn : l.Nodup) (hR : ∀ s ∈ l, Reach L leaf br s) (hP : ∀ s ∈ l, P s)
    {u1 u2 u4 u5 u7 u8 u9 u10 u11 u12 u13 u14 u15 u16 u17 u18 u19 u20 u21 u22 u23 u24 u25 u26 u27 u28 u29 u30 u31 u32 u33 u34 u35 u36 u37 u38 u39 u40 u41 u42 u43 u44 u45 u46 u47 u48 u49 u50 u51 u52 u53 u54 u55 u56 u57 u58 u59 u60 u61 u62 u63 u64 u65 u66 u67 u68 u69 u70 u71 u72 u73 u74 u75 u76 u77 u78 u79 u80 u81 u82 u83 u84 u85 u86 u87 u88 u89 u90 u91 u92 u93 u94 u95 u96 u97 u98 u99 u100 u101 u102 u103 u104 u105 u106 u107 u108 u109 u110 u111 u112 u113 u114 u115 u116 u117 u118 u119 u120 u121 u122 u123 u124 u125 u126 u127 u128 u129 u130 u131 u132 u133 u134 u135 u136 u137 u138 u139 u140 u141 u142 u143 u144 u145 u146 u147 u148 u149 u150 u151 u152 u153 u154 u155 u156 u157 u158 u159 u160 u161 u162 u163 u164 u165 u166 u167 u168 u169 u170 u171 u172 u173 u174 u175 u176 u177 u178 u179 u180 u181 u182 u183 u184 u185 u186 u187 u188 u189 u190 u191 u192 u193 u194 u195 u196 : Value}
    {Q : Exit → Act → World → Prop} (hN : Reg.NoQ Q)
    (hQ : ∀ (x2 x6 x7 x8 x9 x10 x11 x12 x51 x52 x53 x54 x55 x56 x57 x58 x59 x60 x61 x62 x63 x64 x65 x66 x67 x68 x69 x70 x71 x72 x73 x74 x75 x76 x77 x78 x79 x80 x81 x82 x83 x84 x85 x86 x87 x88 x89 x90 x91 x92 x93 x94 x95 x96 x97 x98 x99 x100 x101 x102 x103 x104 x105 x106 x107 x108 x109 x110 x111 x112 x113 x114 x115 x116 x117 x118 x119 x120 x121 x122 x123 x124 x125 x126 x127 x128 x129 x130 x131 x132 x133 x134 x135 x136 x137 x138 x139 x140 x141 x142 x143 x144 x145 x146 x147 x148 x149 x150 x151 x152 x153 x154 x155 x156 x157 x158 x159 x160 x161 x162 x163 x164 x165 x166 x167 x168 x169 x170 : Value) (w' : World) (vl' vbr' : Value) (l' : List (Nat × Nat)) (t' : List (List (List Nat))), BWU wb w' gb gm gM L (.int .i64 0) cap4 cap5 cap6 vl' vleaf vbr' l' lf t' → l <+: l' → l'.Nodup → (∀ s ∈ l', Reach L leaf br s) → (∀ s ∈ l', P s) →
      TabOK L br l' (fun _ => l'.length) t' → t'.length = l'.length →
      Q (.exit 2) ⟨List.toArray ((.pointer (some ⟨gb, 0, none⟩)) :: u1 :: x2 :: (.pointer (some ⟨gM, 0, none⟩)) :: u4 :: u5 :: x6 :: x7 :: x8 :: x9 :: x10 :: x11 :: x12 :: u13 :: u14 :: u15 :: u16 :: u17 :: u18 :: u19 :: u20 :: u21 :: u22 :: u23 :: u24 :: u25 :: u26 :: u27 :: u28 :: u29 :: 
      u30 :: u31 :: u32 :: u33 :: u34 :: u35 :: u36 :: u37 :: u38 :: u39 :: u40 :: u41 :: u42 :: u43 :: u44 :: u45 :: u46 :: u47 :: u48 :: u49 :: u50 :: x51 :: x52 :: x53 :: x54 :: x55 :: x56 :: x57 :: x58 :: x59 :: x60 :: x61 :: x62 :: x63 :: x64 :: x65 :: x66 :: 
      x67 :: x68 :: x69 :: x70 :: x71 :: x72 :: x73 :: x74 :: x75 :: x76 :: x77 :: x78 :: x79 :: x80 :: x81 :: x82 :: x83 :: x84 :: x85 :: x86 :: x87 :: x88 :: x89 :: x90 :: x91 :: x92 :: x93 :: x94 :: x95 :: x96 :: x97 :: x98 :: x99 :: x100 :: x101 :: x102 :: x103 :: 
      x104 :: x105 :: x106 :: x107 :: x108 :: x109 :: x110 :: x111 :: x112 :: x113 :: x114 :: x115 :: x116 :: x117 :: x118 :: x119 :: x120 :: x121 :: x122 :: x123 :: x124 :: x125 :: x126 :: x127 :: x128 :: x129 :: x130 :: x131 :: x132 :: x133 :: x134 :: x135 :: x136 :: 
      x137 :: x138 :: x139 :: x140 :: x141 :: x142 :: x143 :: x144 :: x145 :: x146 :: x147 :: x148 :: x149 :: x150 :: x151 :: x152 :: x153 :: x154 :: x155 :: x156 :: x157 :: x158 :: x159 :: x160 :: x161 :: x162 :: x163 :: x164 :: x165 :: x166 :: x167 :: x168 :: x169 :: 
      x170 :: u171 :: u172 :: u173 :: u174 :: u175 :: u176 :: u177 :: u178 :: u179 :: u180 :: u181 :: u182 :: u183 :: u184 :: u185 :: u186 :: u187 :: u188 :: u189 :: u190 :: u191 :: u192 :: u193 :: u194 :: u195 :: u196 :: []), []⟩ w') :
    (Code.loop (loopBody Try.f92 1)).wp Try.prog Q ⟨List.toArray ((.pointer (some ⟨gb, 0, none⟩)) :: u1 :: u2 :: (.pointer (some ⟨gM, 0, none⟩)) :: u4 :: u5 :: (.int .i64 0) :: u7 :: u8 :: u9 :: u10 :: u11 :: u12 :: u13 :: u14 :: u15 :: u16 :: u17 :: u18 :: u19 :: u20 :: u21 :: u22 :: u23 :: u24 :: u25 :: u26 :: u27 :: u28 :: 
      u29 :: u30 :: u31 :: u32 :: u33 :: u34 :: u35 :: u36 :: u37 :: u38 :: u39 :: u40 :: u41 :: u42 :: u43 :: u44 :: u45 :: u46 :: u47 :: u48 :: u49 :: u50 :: u51 :: u52 :: u53 :: u54 :: u55 :: u56 :: u57 :: u58 :: u59 :: u60 :: u61 :: u62 :: u63 :: u64 :: u65 :: 
      u66 :: u67 :: u68 :: u69 :: u70 :: u71 :: u72 :: u73 :: u74 :: u75 :: u76 :: u77 :: u78 :: u79 :: u80 :: u81 :: u82 :: u83 :: u84 :: u85 :: u86 :: u87 :: u88 :: u89 :: u90 :: u91 :: u92 :: u93 :: u94 :: u95 :: u96 :: u97 :: u98 :: u99 :: u100 :: u101 :: u102 :: 
      u103 :: u104 :: u105 :: u106 :: u107 :: u108 :: u109 :: u110 :: u111 :: u112 :: u113 :: u114 :: u115 :: u116 :: u117 :: u118 :: u119 :: u120 :: u121 :: u122 :: u123 :: u124 :: u125 :: u126 :: u127 :: u128 :: u129 :: u130 :: u131 :: u132 :: u133 :: u134 :: u135 :: 
      u136 :: u137 :: u138 :: u139 :: u140 :: u141 :: u142 :: u143 :: u144 :: u145 :: u146 :: u147 :: u148 :: u149 :: u150 :: u151 :: u152 :: u153 :: u154 :: u155 :: u156 :: u157 :: u158 :: u159 :: u160 :: u161 :: u162 :: u163 :: u164 :: u165 :: u166 :: u167 :: u168 :: 
      u169 :: u170 :: u171 :: u172 :: u173 :: u174 :: u175 :: u176 :: u177 :: u178 :: u179 :: u180 :: u181 :: u182 :: u183 :: u184 :: u185 :: u186 :: u187 :: u188 :: u189 :: u190 :: u191 :: u192 :: u193 :: u194 :: u195 :: u196 :: []), []⟩ w := by
  conv => arg 2; arg 1; whnf
  go_loopw [6] (fun kk wr => ∃ (k : Nat) (l' : List (Nat × Nat)) (vl' vbr' : Value) (t' : List (List (List Nat))), kk = .int .i64 (k : Int) ∧ k ≤ l'.length ∧ BWU wb wr gb gm gM L (.int .i64 0) cap4 cap5 cap6 vl' vleaf vbr' l' lf t' ∧ l <+: l' ∧ l'.Nodup ∧ (∀ s ∈ l', Reach L leaf br s) ∧ (∀ s ∈ l', P s) ∧
    TabOK L br l' (fun _ => k) t' ∧ t'.length = k) (fun kk _ => 60000 - (intOf kk).toNat)
  case atStart => exact ⟨0, l, vl, _, [], rfl, by omega, hB, List.prefix_refl _, hn, hR, hP, fun i r h => by simp at h, rfl⟩
  case round =>
    obtain ⟨k, l', vl', vbr', t', rfl, hkl, hB', hpre, hn', hR', hP', hT', htl'⟩ := hrel
    obtain ⟨A, c, rfl⟩ := slice_of_own hB'.bld.row
    have hcb := hB'.bld.blk.cell
    have hl' := hC.plen l' hn' hP'
    have hNN := hide hn'
    have hRR := hide hR'
    have hPP := hide hP'
    have hpp := hide hpre
    have hTT := hide hT'
    have hTL := hide htl'
    clear hn' hR' hP' hpre hT' htl' hR hP hn
    go_wp2_with fail
    · refine Reg.region_plain [0, 1, 3, 7, 15, 31, 63, 127, 255, 511, 1023, 63, 2111, 6207, 14399, 32767, 65535] (by kernel_rfl) (by repeat (first | exact hN | refine Reg.NoQ.then ?_ | refine Reg.NoQ.inBlock ?_)) ?_
      go_wp2_with fail
      refine Reg.region_plain [0, 0, 2, 6, 14, 30, 1, 127] (by kernel_rfl) (by repeat (first | exact hN | refine Reg.NoQ.then ?_ | refine Reg.NoQ.inBlock ?_)) ?_
      go_wp2_with fail
      refine bld_lines (n0 := k) (l0 := l') hC (by omega) hL hkl hB'.drew.drew (Mid.refl hNN.out) hPP.out hTL.out hTT.out ?_ ?_
      · repeat (first | exact hN | refine Reg.NoQ.then ?_ | refine Reg.NoQ.inBlock ?_)
      · iterate 89 (intro _)
        intro w2 vl2 vbr2 l2 t2 hB2 hM3 hpre2 hP2 hT2 htl2
        have hMM := hide hM3
        have hPP2 := hide hP2
        have hpp2 := hide hpre2
        have hTT2 := hide hT2
        have hTL2 := hide htl2
        clear hM3 hP2 hpre2 hT2 htl2
        go_wp2_with fail
        exact ⟨⟨l'.length, l2, vl2, _, t2, rfl, hpp2.out.length_le, hB2, hpp.out.trans hpp2.out, hMM.out.nodup, hMM.out.reach hRR.out, hPP2.out, hTT2.out, hTL2.out⟩, by simp [intOf]; omega⟩
    · obtain rfl : k = l'.length := by omega
      exact hQ _ _ _ _ _ _ _ _ _ _ _ _ _ _ _ _ _ _ _ _ _ _ _ _ _ _ _ _ _ _ _ _ _ _ _ _ _ _ _ _ _ _ _ _ _ _ _ _ _ _ _ _ _ _ _ _ _ _ _ _ _ _ _ _ _ _ _ _ _ _ _ _ _ _ _ _ _ _ _ _ _ _ _ _ _ _ _ _ _ _ _ _ _ _ _ _ _ _ _ _ _ _ _ _ _ _ _ _ _ _ _ _ _ _ _ _ _ _ _ _ _ _ _ _ _ _ _ _ wr _ _ l' t' hB' hpp.out hNN.out hRR.out hPP.out hTT.out hTL.out
end PB
end Go.Proofs.Ytnimlcbgeiajiaa

namespace Go.Proofs.Ytnimlcbgeiajiaa
open Go.RowKit
namespace PB

set_option maxHeartbeats 4000000 in
set_option maxRecDepth 100000 in
theorem bld_leaves {wb : World} {gb gm gM L : Nat} {c1 cap4 cap5 cap6 : Value} {leaf : Nat → Nat × Nat} {br : Nat → Nat × Nat → Nat × Nat → Nat × Nat} {acc : Nat × Nat → Bool} {P : Nat × Nat → Prop} (hC : ClosU wb gb L cap4 cap5 cap6 leaf br acc P)
    (hL : L ≤ 8)
    {w : World} (hB : BWU wb w gb gm gM L c1 cap4 cap5 cap6 (.slice none 0 0) (.slice none 0 0) (.slice none 0 0) [] [] [])
    {u1 u2 u4 u5 u6 u7 u8 u9 u10 u11 u12 u13 u14 u15 u16 u17 u18 u19 u20 u21 u22 u23 u24 u25 u26 u27 u30 u31 u32 u33 u34 u35 u36 u37 u38 u39 u40 u41 u42 u43 u44 u45 u46 u47 u48 u49 u50 u51 u52 u53 u54 u55 u56 u57 u58 u59 u60 u61 u62 u63 u64 u65 u66 u67 u68 u69 u70 u71 u72 u73 u74 u75 u76 u77 u78 u79 u80 u81 u82 u83 u84 u85 u86 u87 u88 u89 u90 u91 u92 u93 u94 u95 u96 u97 u98 u99 u100 u101 u102 u103 u104 u105 u106 u107 u108 u109 u110 u111 u112 u113 u114 u115 u116 u117 u118 u119 u120 u121 u122 u123 u124 u125 u126 u127 u128 u129 u130 u131 u132 u133 u134 u135 u136 u137 u138 u139 u140 u141 u142 u143 u144 u145 u146 u147 u148 u149 u150 u151 u152 u153 u154 u155 u156 u157 u158 u159 u160 u161 u162 u163 u164 u165 u166 u167 u168 u169 u170 u171 u172 u173 u174 u175 u176 u177 u178 u179 u180 u181 u182 u183 u184 u185 u186 u187 u188 u189 u190 u191 u192 u193 u194 u195 u196 : Value}
    {Q : Exit → Act → World → Prop} (_ : Reg.NoQ Q)
    (hQ : ∀ (x4 x5 x29 x30 x31 x32 x33 x34 x35 x36 x37 x38 x39 x40 x41 x42 x43 x44 x45 x46 x47 x48 x49 x50 : Value) (w' : World) (vl' vleaf' : Value) (l' : List (Nat × Nat)) (lf' : List Nat), BWU wb w' gb gm gM L c1 cap4 cap5 cap6 vl' vleaf' (.slice none 0 0) l' lf' [] → l'.Nodup → (∀ s ∈ l', Reach L leaf br s) → (∀ s ∈ l', P s) →
      l'.length ≤ L → lf'.length = L → LeafOK leaf l' lf' →
      Q (.exit 0) ⟨List.toArray ((.pointer (some ⟨gb, 0, none⟩)) :: u1 :: u2 :: (.pointer (some ⟨gM, 0, none⟩)) :: x4 :: x5 :: u6 :: u7 :: u8 :: u9 :: u10 :: u11 :: u12 :: u13 :: u14 :: u15 :: u16 :: u17 :: u18 :: u19 :: u20 :: u21 :: u22 :: u23 :: u24 :: u25 :: u26 :: u27 :: (.int .i64 L) :: 
      x29 :: x30 :: x31 :: x32 :: x33 :: x34 :: x35 :: x36 :: x37 :: x38 :: x39 :: x40 :: x41 :: x42 :: x43 :: x44 :: x45 :: x46 :: x47 :: x48 :: x49 :: x50 :: u51 :: u52 :: u53 :: u54 :: u55 :: u56 :: u57 :: u58 :: u59 :: u60 :: u61 :: u62 :: u63 :: u64 :: u65 :: 
      u66 :: u67 :: u68 :: u69 :: u70 :: u71 :: u72 :: u73 :: u74 :: u75 :: u76 :: u77 :: u78 :: u79 :: u80 :: u81 :: u82 :: u83 :: u84 :: u85 :: u86 :: u87 :: u88 :: u89 :: u90 :: u91 :: u92 :: u93 :: u94 :: u95 :: u96 :: u97 :: u98 :: u99 :: u100 :: u101 :: u102 :: 
      u103 :: u104 :: u105 :: u106 :: u107 :: u108 :: u109 :: u110 :: u111 :: u112 :: u113 :: u114 :: u115 :: u116 :: u117 :: u118 :: u119 :: u120 :: u121 :: u122 :: u123 :: u124 :: u125 :: u126 :: u127 :: u128 :: u129 :: u130 :: u131 :: u132 :: u133 :: u134 :: u135 :: 
      u136 :: u137 :: u138 :: u139 :: u140 :: u141 :: u142 :: u143 :: u144 :: u145 :: u146 :: u147 :: u148 :: u149 :: u150 :: u151 :: u152 :: u153 :: u154 :: u155 :: u156 :: u157 :: u158 :: u159 :: u160 :: u161 :: u162 :: u163 :: u164 :: u165 :: u166 :: u167 :: u168 :: 
      u169 :: u170 :: u171 :: u172 :: u173 :: u174 :: u175 :: u176 :: u177 :: u178 :: u179 :: u180 :: u181 :: u182 :: u183 :: u184 :: u185 :: u186 :: u187 :: u188 :: u189 :: u190 :: u191 :: u192 :: u193 :: u194 :: u195 :: u196 :: []), []⟩ w') :
    (Code.loop (loopBody Try.f92 0)).wp Try.prog Q ⟨List.toArray ((.pointer (some ⟨gb, 0, none⟩)) :: u1 :: u2 :: (.pointer (some ⟨gM, 0, none⟩)) :: u4 :: u5 :: u6 :: u7 :: u8 :: u9 :: u10 :: u11 :: u12 :: u13 :: u14 :: u15 :: u16 :: u17 :: u18 :: u19 :: u20 :: u21 :: u22 :: u23 :: u24 :: u25 :: u26 :: u27 :: (.int .i64 L) :: 
      (.int .i64 0) :: u30 :: u31 :: u32 :: u33 :: u34 :: u35 :: u36 :: u37 :: u38 :: u39 :: u40 :: u41 :: u42 :: u43 :: u44 :: u45 :: u46 :: u47 :: u48 :: u49 :: u50 :: u51 :: u52 :: u53 :: u54 :: u55 :: u56 :: u57 :: u58 :: u59 :: u60 :: u61 :: u62 :: u63 :: u64 :: 
      u65 :: u66 :: u67 :: u68 :: u69 :: u70 :: u71 :: u72 :: u73 :: u74 :: u75 :: u76 :: u77 :: u78 :: u79 :: u80 :: u81 :: u82 :: u83 :: u84 :: u85 :: u86 :: u87 :: u88 :: u89 :: u90 :: u91 :: u92 :: u93 :: u94 :: u95 :: u96 :: u97 :: u98 :: u99 :: u100 :: u101 :: 
      u102 :: u103 :: u104 :: u105 :: u106 :: u107 :: u108 :: u109 :: u110 :: u111 :: u112 :: u113 :: u114 :: u115 :: u116 :: u117 :: u118 :: u119 :: u120 :: u121 :: u122 :: u123 :: u124 :: u125 :: u126 :: u127 :: u128 :: u129 :: u130 :: u131 :: u132 :: u133 :: u134 :: 
      u135 :: u136 :: u137 :: u138 :: u139 :: u140 :: u141 :: u142 :: u143 :: u144 :: u145 :: u146 :: u147 :: u148 :: u149 :: u150 :: u151 :: u152 :: u153 :: u154 :: u155 :: u156 :: u157 :: u158 :: u159 :: u160 :: u161 :: u162 :: u163 :: u164 :: u165 :: u166 :: u167 :: 
      u168 :: u169 :: u170 :: u171 :: u172 :: u173 :: u174 :: u175 :: u176 :: u177 :: u178 :: u179 :: u180 :: u181 :: u182 :: u183 :: u184 :: u185 :: u186 :: u187 :: u188 :: u189 :: u190 :: u191 :: u192 :: u193 :: u194 :: u195 :: u196 :: []), []⟩ w := by
  conv => arg 2; arg 1; whnf
  go_loopw [29] (fun kk wr => ∃ (l' : List (Nat × Nat)) (lf' : List Nat) (vl' vleaf' : Value), kk = .int .i64 (lf'.length : Int) ∧ lf'.length ≤ L ∧ l'.length ≤ lf'.length ∧ BWU wb wr gb gm gM L c1 cap4 cap5 cap6 vl' vleaf' (.slice none 0 0) l' lf' [] ∧ l'.Nodup ∧ (∀ s ∈ l', Reach L leaf br s) ∧ (∀ s ∈ l', P s) ∧
    LeafOK leaf l' lf') (fun kk _ => L - (intOf kk).toNat)
  case atStart => exact ⟨[], [], _, _, rfl, by simp, by simp, hB, List.nodup_nil, by simp, by simp, fun x e h => by simp at h⟩
  case round =>
    obtain ⟨l', lf', vl', vleaf', rfl, hlf, hll, hB', hn', hR', hP', hLf⟩ := hrel
    have hcb := hB'.bld.blk.cell
    have hwb := hB'.kept.size
    have hNN := hide hn'
    have hRR := hide hR'
    have hPP := hide hP'
    have hLL := hide hLf
    clear hn' hR' hP' hLf
    go_wp2_with (first
      | (go_at_call 89; refine Calls.ret (hC.fl _ hB'.kept lf'.length (by omega)) ?_; rintro v w1 ⟨rfl, hb1⟩; have hB1 := hB'.below hb1; have hsz1 := hb1.size)
      | (go_at_call 110; refine Calls.ret (meetU w1 wb.heap.size gb gm _ c1 _ _ _ _ l' (leaf lf'.length) hB1.bld (by omega) (Nat.le_trans hwb hsz1)) ?_; rintro v w2 ⟨rfl, vl2, hBl, hk2, hmv2⟩; have hB2 := hB1.list hk2 hBl; have hcm := hB2.mach.cell; have hwb2 := hB2.kept.size; obtain ⟨A, c, rfl⟩ := slice_of_own hB2.lfs)
      | (at_builtin; refine wpList_app_new row22 rfl _ _ rfl wb.heap.size (.slice A lf'.length c) lf'.length _ rfl hB2.lfs [.int .i64 (numL (meetL l' (leaf lf'.length)) (leaf lf'.length) : Nat)] 1 rfl rfl (by simp [Value.oneCell']) (by omega) hwb2 ?_; intro g cap' w3 hown hk3 hmv3 hg3; have hm3 := hB2.mach.kept hk3 (fun e => own_blk_ne hB2.lfs hB2.mach (by decide) e); have hcm3 := hm3.cell; have hfm3 := hm3.frozen))
    · have hX : ∀ k, ((Value.slice A lf'.length c).ownBlock = some k ∨ k = gM) → wb.heap.size ≤ k ∧ ∃ t cs, Blk w2 k t cs ∧ t ≠ 125 ∧ 118 ≠ t := by
        rintro k (hk | rfl)
        · obtain ⟨cs, hb⟩ := own_blk hB2.lfs hk
          exact ⟨own_base hB2.lfs hk, 3, cs, hb, by decide, by decide⟩
        · exact ⟨hB2.gM_, 82, _, hB2.mach, by decide, by decide⟩
      have hk5 := (hk3.mono (Y := fun k => (Value.slice A lf'.length c).ownBlock = some k ∨ k = gM) fun _ _ h => .inl h).setCell (p := ⟨gM, 2, none⟩) (fun _ => .inr rfl) (.slice (some ⟨g, 0, none⟩) (lf'.length + 1) cap')
      have hks := (Kept.refl w3 (fun k => k = gM)).setCell (p := ⟨gM, 2, none⟩) (fun _ => rfl) (.slice (some ⟨g, 0, none⟩) (lf'.length + 1) cap')
      have hown2 := own_ty hks hown (fun k cs e hb => by subst e; exact hm3.ne_ hb (by decide) rfl)
      have hlen := length_meetL l' (leaf lf'.length)
      refine ⟨⟨meetL l' (leaf lf'.length), lf' ++ [numL (meetL l' (leaf lf'.length)) (leaf lf'.length)], vl2, _, by simp, by simp; omega, by simp; omega,
        ⟨hB2.kept.trans hk5 (fun b hb hx => by have := (hX b hx).1; omega), hB2.bld.other hk5 (fun k hk => (hX k hk).2), hm3.set_ 2 _, ?_, Tab.nil, hB2.gm_, hB2.gM_⟩, nodup_meetL hNN.out _, ?_, ?_, ?_⟩, by simp [intOf]; omega⟩
      · unfold IntRow
        simpa [encN] using hown2
      · intro u hu
        rcases mem_meetL.1 hu with hu | rfl
        · exact hRR.out u hu
        · exact .leaf _ (by omega)
      · intro u hu
        rcases mem_meetL.1 hu with hu | rfl
        · exact hPP.out u hu
        · exact hC.pleaf _ (by omega)
      · exact (hLL.out.grow (prefix_meetL _ _)).snoc (get_numL _ _)
    · exact hQ _ _ _ _ _ _ _ _ _ _ _ _ _ _ _ _ _ _ _ _ _ _ _ _ wr vl' vleaf' l' lf' hB' hNN.out hRR.out hPP.out (by omega) (by omega) hLL.out
end PB
end Go.Proofs.Ytnimlcbgeiajiaa

namespace Go.Proofs.Ytnimlcbgeiajiaa
open Go.RowKit
namespace PB

set_option maxHeartbeats 4000000 in
set_option maxRecDepth 100000 in
theorem bld_accept {wb : World} {gb gm gM L g0 cap0 : Nat} {c1 cap4 cap5 cap6 vleaf vbr : Value} {leaf : Nat → Nat × Nat} {br : Nat → Nat × Nat → Nat × Nat → Nat × Nat} {acc : Nat × Nat → Bool} {P : Nat × Nat → Prop} (hC : ClosU wb gb L cap4 cap5 cap6 leaf br acc P)
    {w : World} {l : List (Nat × Nat)} {lf : List Nat} {t : List (List (List Nat))} (hK : Kept wb w (fun k => k = gb)) (hB : BldU w wb.heap.size gb gm (.int .i64 L) c1 (.func (.func 89) #[] #[cap4, cap5]) (.func (.func 90) #[] #[cap4, cap5]) (.func (.func 91) #[] #[cap6, cap4, cap5]) (.slice (some ⟨g0, 0, none⟩) l.length cap0) l)
    (hM : MachA w wb.heap.size gM L (.slice none 0 0) vleaf vbr [] lf t) (hgM : wb.heap.size ≤ gM) (hP : ∀ s ∈ l, P s) (hl : l.length ≤ 4096)
    {u1 u2 u4 u5 u6 u7 u8 u9 u10 u11 u12 u13 u14 u15 u16 u17 u18 u19 u20 u21 u22 u23 u24 u25 u26 u27 u28 u29 u30 u31 u32 u33 u34 u35 u36 u37 u38 u39 u40 u41 u42 u43 u44 u45 u46 u47 u48 u49 u50 u51 u52 u53 u54 u55 u56 u57 u58 u59 u60 u61 u62 u63 u64 u65 u66 u67 u68 u69 u70 u71 u72 u73 u74 u75 u76 u77 u78 u79 u80 u81 u82 u83 u84 u85 u86 u87 u88 u89 u90 u91 u92 u93 u94 u95 u96 u97 u98 u99 u100 u101 u102 u103 u104 u105 u106 u107 u108 u109 u110 u111 u112 u113 u114 u115 u116 u117 u118 u119 u120 u121 u122 u123 u124 u125 u126 u127 u128 u129 u130 u131 u132 u133 u134 u135 u136 u137 u138 u139 u140 u141 u142 u143 u144 u145 u146 u147 u148 u149 u150 u151 u152 u153 u154 u155 u156 u157 u158 u159 u160 u161 u162 u163 u164 u165 u166 u167 u168 u169 u170 u171 u172 u173 u177 u178 u179 u180 u181 u182 u183 u184 u185 u186 u187 u188 u189 u190 u191 u192 u193 u194 u195 u196 : Value}
    {Q : Exit → Act → World → Prop} (hN : Reg.NoQ Q)
    (hQ : ∀ (x14 x176 x177 x178 x179 x180 x181 x182 x183 x184 x185 x186 x187 x188 x189 x190 x191 x192 x193 x194 x195 : Value) (w' : World) (vacc : Value), Kept wb w' (fun k => k = gb) → MachA w' wb.heap.size gM L vacc vleaf vbr (l.map acc) lf t →
      Q (.exit 10) ⟨List.toArray ((.pointer (some ⟨gb, 0, none⟩)) :: u1 :: u2 :: (.pointer (some ⟨gM, 0, none⟩)) :: u4 :: u5 :: u6 :: u7 :: u8 :: u9 :: u10 :: u11 :: u12 :: u13 :: x14 :: u15 :: u16 :: u17 :: u18 :: u19 :: u20 :: u21 :: u22 :: u23 :: u24 :: u25 :: u26 :: u27 :: u28 :: u29 :: 
      u30 :: u31 :: u32 :: u33 :: u34 :: u35 :: u36 :: u37 :: u38 :: u39 :: u40 :: u41 :: u42 :: u43 :: u44 :: u45 :: u46 :: u47 :: u48 :: u49 :: u50 :: u51 :: u52 :: u53 :: u54 :: u55 :: u56 :: u57 :: u58 :: u59 :: u60 :: u61 :: u62 :: u63 :: u64 :: u65 :: u66 :: 
      u67 :: u68 :: u69 :: u70 :: u71 :: u72 :: u73 :: u74 :: u75 :: u76 :: u77 :: u78 :: u79 :: u80 :: u81 :: u82 :: u83 :: u84 :: u85 :: u86 :: u87 :: u88 :: u89 :: u90 :: u91 :: u92 :: u93 :: u94 :: u95 :: u96 :: u97 :: u98 :: u99 :: u100 :: u101 :: u102 :: u103 :: 
      u104 :: u105 :: u106 :: u107 :: u108 :: u109 :: u110 :: u111 :: u112 :: u113 :: u114 :: u115 :: u116 :: u117 :: u118 :: u119 :: u120 :: u121 :: u122 :: u123 :: u124 :: u125 :: u126 :: u127 :: u128 :: u129 :: u130 :: u131 :: u132 :: u133 :: u134 :: u135 :: u136 :: 
      u137 :: u138 :: u139 :: u140 :: u141 :: u142 :: u143 :: u144 :: u145 :: u146 :: u147 :: u148 :: u149 :: u150 :: u151 :: u152 :: u153 :: u154 :: u155 :: u156 :: u157 :: u158 :: u159 :: u160 :: u161 :: u162 :: u163 :: u164 :: u165 :: u166 :: u167 :: u168 :: u169 :: 
      u170 :: u171 :: u172 :: u173 :: (.slice (some ⟨g0, 0, none⟩) l.length cap0) :: (.int .i64 l.length) :: x176 :: x177 :: x178 :: x179 :: x180 :: x181 :: x182 :: x183 :: x184 :: x185 :: x186 :: x187 :: x188 :: x189 :: x190 :: x191 :: x192 :: x193 :: x194 :: x195 :: 
      u196 :: []), []⟩ w') :
    (Code.loop (loopBody Try.f92 5)).wp Try.prog Q ⟨List.toArray ((.pointer (some ⟨gb, 0, none⟩)) :: u1 :: u2 :: (.pointer (some ⟨gM, 0, none⟩)) :: u4 :: u5 :: u6 :: u7 :: u8 :: u9 :: u10 :: u11 :: u12 :: u13 :: u14 :: u15 :: u16 :: u17 :: u18 :: u19 :: u20 :: u21 :: u22 :: u23 :: u24 :: u25 :: u26 :: u27 :: u28 :: u29 :: 
      u30 :: u31 :: u32 :: u33 :: u34 :: u35 :: u36 :: u37 :: u38 :: u39 :: u40 :: u41 :: u42 :: u43 :: u44 :: u45 :: u46 :: u47 :: u48 :: u49 :: u50 :: u51 :: u52 :: u53 :: u54 :: u55 :: u56 :: u57 :: u58 :: u59 :: u60 :: u61 :: u62 :: u63 :: u64 :: u65 :: u66 :: 
      u67 :: u68 :: u69 :: u70 :: u71 :: u72 :: u73 :: u74 :: u75 :: u76 :: u77 :: u78 :: u79 :: u80 :: u81 :: u82 :: u83 :: u84 :: u85 :: u86 :: u87 :: u88 :: u89 :: u90 :: u91 :: u92 :: u93 :: u94 :: u95 :: u96 :: u97 :: u98 :: u99 :: u100 :: u101 :: u102 :: u103 :: 
      u104 :: u105 :: u106 :: u107 :: u108 :: u109 :: u110 :: u111 :: u112 :: u113 :: u114 :: u115 :: u116 :: u117 :: u118 :: u119 :: u120 :: u121 :: u122 :: u123 :: u124 :: u125 :: u126 :: u127 :: u128 :: u129 :: u130 :: u131 :: u132 :: u133 :: u134 :: u135 :: u136 :: 
      u137 :: u138 :: u139 :: u140 :: u141 :: u142 :: u143 :: u144 :: u145 :: u146 :: u147 :: u148 :: u149 :: u150 :: u151 :: u152 :: u153 :: u154 :: u155 :: u156 :: u157 :: u158 :: u159 :: u160 :: u161 :: u162 :: u163 :: u164 :: u165 :: u166 :: u167 :: u168 :: u169 :: 
      u170 :: u171 :: u172 :: u173 :: (.slice (some ⟨g0, 0, none⟩) l.length cap0) :: (.int .i64 l.length) :: (.int .i64 0) :: u177 :: u178 :: u179 :: u180 :: u181 :: u182 :: u183 :: u184 :: u185 :: u186 :: u187 :: u188 :: u189 :: u190 :: u191 :: u192 :: u193 :: u194 :: 
      u195 :: u196 :: []), []⟩ w := by
  conv => arg 2; arg 1; whnf
  go_loopw [176] (fun kk wr => ∃ (ac : List Bool) (vacc : Value), kk = .int .i64 (ac.length : Int) ∧ ac.length ≤ l.length ∧ Kept wb wr (fun k => k = gb) ∧ BldU wr wb.heap.size gb gm (.int .i64 L) c1 (.func (.func 89) #[] #[cap4, cap5]) (.func (.func 90) #[] #[cap4, cap5]) (.func (.func 91) #[] #[cap6, cap4, cap5]) (.slice (some ⟨g0, 0, none⟩) l.length cap0) l ∧
    MachA wr wb.heap.size gM L vacc vleaf vbr ac lf t ∧ Hid (ac = (l.take ac.length).map acc)) (fun kk _ => l.length - (intOf kk).toNat)
  case atStart => exact ⟨[], _, rfl, Nat.zero_le _, hK, hB, hM, rfl⟩
  case round =>
    obtain ⟨ac, vacc, rfl, hk, hK', hB', hM', hac⟩ := hrel
    obtain ⟨A, c, rfl⟩ := slice_of_own hM'.acc
    have hPP := hide hP
    clear hP
    by_cases hlt : ac.length < l.length
    · obtain ⟨s, hs⟩ : ∃ s, l[ac.length]? = some s := ⟨_, List.getElem?_eq_getElem hlt⟩
      obtain ⟨gg, cc, hgg, hci, hci2⟩ := own_getP hB'.row hs
      injection hgg with hgg _ hcc
      injection hgg with hgg
      injection hgg with hgg
      subst hgg hcc
      obtain ⟨w2, hw2, hb2, hBx, hk2⟩ := box_blk wr #[.int .i64 (s.1 : Int), .int .i64 (s.2 : Int)] 118
      have hB2 := hB'.below hb2
      have hM2 := hM'.keep hk2 (fun _ _ _ h => h.elim)
      have hK2 := hK'.trans hk2 (fun _ _ h => h.elim)
      have hcb := hB2.blk.cell
      have hcm := hM2.blk.cell
      have hcx := hBx.cell
      have hPs := hPP.out s (List.mem_of_getElem? hs)
      have hHs := hide hs
      clear hs
      go_wp2_with fail
      refine Reg.region_cut [0, 0, 2, 6, 14, 0, 32, 96, 224, 0, 992, 2016, 4094, 8191, 16383, 32767] [0, 1, 2, 3, 4, 5, 6, 7, 8, 9, 10, 11, 12, 13, 14, 15] (by kernel_rfl) (by repeat (first | exact hN | refine Reg.NoQ.then ?_ | refine Reg.NoQ.inBlock ?_)) ?_
      refine Reg.rest_walk' [0, 1, 2, 3, 4, 5, 6, 7, 8, 9] [10, 11, 12, 13, 14, 15] rfl (by kernel_rfl) ?_
      intro Qf hQf
      go_wp2_with fail
      rw [List.filterMap_nil]
      go_wp2_with fail
      refine Reg.rest_act' 10 [11, 12, 13, 14, 15] [4] rfl (by kernel_rfl) ?_
      intro Qf hQf
      simp only [List.getElem_toArray, List.getElem_cons_succ, List.getElem_cons_zero]
      go_wp2_with (go_at_call 91; refine Calls.ret (hC.fa _ hK2.drew s hPs) ?_; rintro v w1 ⟨rfl, hb0⟩; have hb1 : Below w2.heap.size w2 w1 := ⟨hb0.os, hb0.tape, hb0.output, hb0.size, hb0.block⟩)
      refine ⟨Reg.same_below hb0 [4] rfl, ?_⟩
      clear hb0
      have hkb : Kept w2 w1 (fun _ => False) := Kept.of_below hb1 _
      have hB1 := hB2.below hb1
      have hM1 := hM2.keep hkb (fun _ _ _ h => h.elim)
      have hK1 := hK2.trans hkb (fun _ _ h => h.elim)
      refine Reg.rest_walk' [11] [12, 13, 14, 15] rfl (by kernel_rfl) ?_
      intro Qf hQf
      go_wp2_with fail
      rw [List.filterMap_nil]
      go_wp2_with fail
      refine Reg.rest_act' 12 [13, 14, 15] [] rfl (by kernel_rfl) ?_
      intro Qf hQf
      simp only [List.getElem_toArray, List.getElem_cons_succ, List.getElem_cons_zero]
      refine wpList_app_new (w := w1) row79 rfl _ _ rfl wb.heap.size (.slice A ac.length c) ac.length _ rfl hM1.acc [.bool (acc s)] 1 rfl rfl (by simp [Value.oneCell']) (by omega) hK1.size ?_
      intro g cap' w3 hown hk3 hmv3 hg3
      have hm3 := hM1.blk.kept hk3 (fun e => own_blk_ne hM1.acc hM1.blk (by decide) e)
      have hcm3 := hm3.cell
      have hfm3 := hm3.frozen
      have hB3 := hB1.other hk3 (fun k hk => by
        obtain ⟨cs, hb⟩ := own_blk hM1.acc hk
        exact ⟨4, cs, hb, by decide, by decide⟩)
      have hK3 := hK1.trans hk3 (fun b hb hx => by have := own_base hM1.acc hx; omega)
      refine hQf _ _ ⟨fun r hr => absurd hr (List.not_mem_nil), ?_⟩
      clear hQf
      refine Reg.rest_walk' [13, 14, 15] [] rfl (by kernel_rfl) ?_
      intro Qf hQf
      go_wp2_with fail
      rw [List.filterMap_nil]
      go_wp2_with fail
      refine Reg.rest_end ?_
      go_wp2_with fail
      have hks := (Kept.refl w3 (fun k => k = gM)).setCell (p := ⟨gM, 1, none⟩) (fun _ => rfl) (.slice (some ⟨g, 0, none⟩) (ac.length + 1) cap')
      have hg82 : ∀ (e : TypeId), e ≠ 82 → ∀ k cs, k = gM → ¬ Blk w3 k e cs := fun e he k cs ek hb => by subst ek; exact hm3.ne_ hb (fun h => he h.symm) rfl
      obtain ⟨us, hu⟩ := hM1.tab.open
      have hu3 := hu.keep hk3 (not_blk hM1.acc (by decide)) (not_blk hM1.acc (by decide)) (fun g hg => own_own_ne hu.own hM1.acc (by decide) hg)
      have hu4 := hu3.keep hks (hg82 3 (by decide)) (hg82 22 (by decide)) (fun k hk ek => hg82 104 (by decide) k _ ek (own_blk hu3.own hk).choose_spec)
      refine ⟨⟨ac ++ [acc s], _, by simp, by simp; omega, hK3.trans hks (fun b hb hx => by omega), hB3.other hks (fun k hk => by subst hk; exact ⟨82, _, hm3, by decide, by decide⟩), ⟨hm3.set_ 1 _, ?_, own_ty hks (own_ty hk3 hM1.lfs (not_blk hM1.acc (by decide))) (hg82 3 (by decide)), hu4.close⟩, ?_⟩, by simp [intOf]; omega⟩
      · have := own_ty hks hown (hg82 4 (by decide))
        simpa using this
      · show ac ++ [acc s] = _
        rw [List.length_append, List.length_singleton, List.take_add_one, hHs.out, List.map_append, ← hac.out]
        rfl
    · have e : ac.length = l.length := by omega
      have he := hide e
      clear e
      have hcb := hB'.blk.cell
      have hcm := hM'.blk.cell
      go_wp2_with fail
      refine hQ _ _ _ _ _ _ _ _ _ _ _ _ _ _ _ _ _ _ _ _ _ wr (.slice A ac.length c) hK' ?_
      rw [he.out, List.take_length] at hac
      have := hac.out
      subst this
      exact hM'
end PB
end Go.Proofs.Ytnimlcbgeiajiaa

namespace Go.Proofs.Ytnimlcbgeiajiaa
open Go.RowKit
namespace PB

set_option maxHeartbeats 4000000 in
set_option maxRecDepth 100000 in
theorem buildU {wb : World} {gb L : Nat} {cap4 cap5 cap6 : Value} {leaf : Nat → Nat × Nat} {br : Nat → Nat × Nat → Nat × Nat → Nat × Nat} {acc : Nat × Nat → Bool} {P : Nat × Nat → Prop} (hC : ClosU wb gb L cap4 cap5 cap6 leaf br acc P)
    (h0 : 0 < L) (hL : L ≤ 8) (hb : Blk wb gb 125 #[.int .i64 L, .int .i64 0, .map none, .slice none 0 0, .func (.func 89) #[] #[cap4, cap5], .func (.func 90) #[] #[cap4, cap5], .func (.func 91) #[] #[cap6, cap4, cap5]]) :
    Calls Try.prog 92 #[.pointer (some ⟨gb, 0, none⟩)] wb (Ret fun v w' => Kept wb w' (fun k => k = gb) ∧ ∃ l : List (Nat × Nat), l.Nodup ∧ (∀ s ∈ l, Reach L leaf br s) ∧ (∀ s ∈ l, P s) ∧
      ∃ gM lf t, v = .pointer (some ⟨gM, 0, none⟩) ∧ wb.heap.size ≤ gM ∧ Mach w' wb.heap.size gM L (l.map acc) lf t ∧ lf.length = L ∧ LeafOK leaf l lf ∧
        TabOK L br l (fun _ => l.length) t ∧ t.length = l.length ∧ l.length ≤ 4096) := by
  obtain ⟨gm, w1, hmk, hmap, hb1, hgm⟩ := mkmap_facts 122 wb
  have hblk1 := hb.kept (Kept.of_below hb1 fun _ => False) id
  have hcb := hblk1.cell
  have hfb := hblk1.frozen
  have hblk2 := hblk1.set_ 2 (.map (some gm))
  have hblk3 : Blk ((w1.setCell ⟨gb, 2, none⟩ (.map (some gm))).alloc (.cells #[.int .i64 L, .slice none 0 0, .slice none 0 0, .slice none 0 0] 82)) gb 125 #[.int .i64 L, .int .i64 0, .map (some gm), .slice none 0 0, .func (.func 89) #[] #[cap4, cap5], .func (.func 90) #[] #[cap4, cap5], .func (.func 91) #[] #[cap6, cap4, cap5]] :=
    hblk2.kept ((Kept.refl _ (fun _ => False)).alloc _) id
  have hcb2 := hblk3.cell 0
  have hgMb : wb.heap.size ≤ w1.heap.size := hb1.size
  have hk1 : Kept wb ((w1.setCell ⟨gb, 2, none⟩ (.map (some gm))).alloc (.cells #[.int .i64 L, .slice none 0 0, .slice none 0 0, .slice none 0 0] 82)) (fun k => k = gb) :=
    ((Kept.of_below hb1 (fun k => k = gb)).setCell (p := ⟨gb, 2, none⟩) (fun _ => rfl) _).alloc _
  have hmap3 : IdxMap ((w1.setCell ⟨gb, 2, none⟩ (.map (some gm))).alloc (.cells #[.int .i64 L, .slice none 0 0, .slice none 0 0, .slice none 0 0] 82)) gm [] :=
    hmap.kept (((Kept.refl w1 (fun k => k = gb)).setCell (p := ⟨gb, 2, none⟩) (fun _ => rfl) _).alloc _) (fun e => blk_map_ne hblk1 hmap e.symm)
  have hB0 : BWU wb ((w1.setCell ⟨gb, 2, none⟩ (.map (some gm))).alloc (.cells #[.int .i64 L, .slice none 0 0, .slice none 0 0, .slice none 0 0] 82)) gb gm w1.heap.size L (.int .i64 0) cap4 cap5 cap6 (.slice none 0 0) (.slice none 0 0) (.slice none 0 0) [] [] [] := by
    refine ⟨hk1, ⟨hblk3, hmap3, own_nil⟩, ?_, own_nil, Tab.nil, hgm, hgMb⟩
    have := Blk.new (w1.setCell ⟨gb, 2, none⟩ (.map (some gm))) 82 #[.int .i64 L, .slice none 0 0, .slice none 0 0, .slice none 0 0]
    simpa using this
  have hgmM : gm ≠ w1.heap.size := by have := hmap.lt; omega
  clear hk1 hmap3 hblk3 hblk2
  go_enter Try.func92, Try.ntmps92
  go_wp2_with fail
  refine bld_leaves hC hL hB0 ?_ ?_
  · repeat (first | exact Reg.NoQ.body (fun _ _ h => h) (fun _ h => h) | refine Reg.NoQ.then ?_ | refine Reg.NoQ.inBlock ?_)
  iterate 24 (intro _)
  intro w2 vl2 vleaf2 l2 lf2 hB2 hn2 hR2 hP2 hl2 hlf2 hLf2
  have hNN := hide hn2
  have hRR := hide hR2
  have hPP := hide hP2
  have hLL := hide hLf2
  have hLl := hide hlf2
  clear hn2 hR2 hP2 hLf2 hlf2 hB0 hcb hcb2 hfb hmk hb
  go_wp2_with fail
  refine bld_rounds hC hL hB2 hNN.out hRR.out hPP.out ?_ ?_
  · repeat (first | exact Reg.NoQ.body (fun _ _ h => h) (fun _ h => h) | refine Reg.NoQ.then ?_ | refine Reg.NoQ.inBlock ?_)
  · iterate 128 (intro _)
    intro w3 vl3 vbr3 l3 t3 hB3 hpre3 hn3 hR3 hP3 hT3 htl3
    have hl3 := hC.plen l3 hn3 hP3
    have hls : 0 < l3.length := by
      have h1 := hLl.out
      obtain ⟨e, he⟩ : ∃ e, lf2[0]? = some e := ⟨_, List.getElem?_eq_getElem (by omega)⟩
      have := lt_of_get (prefix_get hpre3 (hLL.out 0 e he))
      omega
    obtain ⟨s0, hs0⟩ : ∃ s0, l3[0]? = some s0 := ⟨_, List.getElem?_eq_getElem hls⟩
    obtain ⟨g0, cap0, rfl, -⟩ := own_getP hB3.bld.row hs0
    have hcb := hB3.bld.blk.cell
    have hls' := hide hls
    have hH0 := hide hs0
    have hNN3 := hide hn3
    have hRR3 := hide hR3
    have hPP3 := hide hP3
    have hTT3 := hide hT3
    have hTL3 := hide htl3
    have hpp3 := hide hpre3
    clear hs0 hn3 hR3 hP3 hT3 htl3 hpre3 hls
    go_wp2_with fail
    refine bld_accept hC hB3.kept hB3.bld ⟨hB3.mach, own_nil, hB3.lfs, hB3.tab⟩ hB3.gM_ hPP3.out hl3 ?_ ?_
    · repeat (first | exact Reg.NoQ.body (fun _ _ h => h) (fun _ h => h) | refine Reg.NoQ.then ?_ | refine Reg.NoQ.inBlock ?_)
    iterate 21 (intro _)
    intro w4 vacc4 hK4 hM4
    have hMM4 := hide hM4
    clear hM4
    go_wp2_with fail
    go_ret
    exact ⟨hK4, l3, hNN3.out, hRR3.out, hPP3.out, w1.heap.size, lf2, t3, rfl, hgMb, ⟨_, _, _, hMM4.out⟩, hLl.out, hLL.out.grow hpp3.out, hTT3.out, hTL3.out, hl3⟩
end PB
end Go.Proofs.Ytnimlcbgeiajiaa

namespace Go.Proofs.Ytnimlcbgeiajiaa
open Go.RowKit

/-- What joins two answers. -/
def Op3 (v : Value) (j : Bool → Bool → Bool) : Prop :=
  (v = .func (.func 86) #[] #[] ∧ j = fun a b => a || b) ∨ (v = .func (.func 87) #[] #[] ∧ j = fun a b => a && b) ∨ (v = .func (.func 88) #[] #[] ∧ j = fun a b => a && !b)

theorem join86 (a b : Bool) (w : World) : Calls Try.prog 86 #[.bool a, .bool b] w fun e w' => e = .returned (.bool (a || b)) ∧ w = w' := by
  cases a <;> cases b
  all_goals
    go_enter Try.func86, Try.ntmps86
    go_wp2_with fail
    go_ret
    exact ⟨rfl, rfl⟩
theorem join87 (a b : Bool) (w : World) : Calls Try.prog 87 #[.bool a, .bool b] w fun e w' => e = .returned (.bool (a && b)) ∧ w = w' := by
  cases a <;> cases b
  all_goals
    go_enter Try.func87, Try.ntmps87
    go_wp2_with fail
    go_ret
    exact ⟨rfl, rfl⟩
theorem join88 (a b : Bool) (w : World) : Calls Try.prog 88 #[.bool a, .bool b] w fun e w' => e = .returned (.bool (a && !b)) ∧ w = w' := by
  cases a <;> cases b
  all_goals
    go_enter Try.func88, Try.ntmps88
    go_wp2_with fail
    go_ret
    exact ⟨rfl, rfl⟩

def set2 (w : World) (g : Nat) (v0 v1 : Value) : World := (w.setCell ⟨g, 0, none⟩ v0).setCell ⟨g, 1, none⟩ v1
theorem set2_facts {w : World} {g : Nat} {e : TypeId} {a0 a1 : Value} (h : Blk w g e #[a0, a1]) (v0 v1 : Value) : ∃ wF, set2 w g v0 v1 = wF ∧ Blk wF g e #[v0, v1] ∧ Kept w wF (fun k => k = g) :=
  ⟨_, rfl, (h.set_ 0 v0).set_ 1 v1, ((Kept.refl w (fun k => k = g)).setCell (p := ⟨g, 0, none⟩) (fun _ => rfl) _).setCell (p := ⟨g, 1, none⟩) (fun _ => rfl) _⟩

/-- Two machines, each behind a box. -/
structure TwoM (w : World) (base g4 g5 gM gN L : Nat) (va vl vb va' vl' vb' : Value) (ac : List Bool) (lf : List Nat) (t : List (List (List Nat))) (ac' : List Bool) (lf' : List Nat) (t' : List (List (List Nat))) : Prop where
  b4 : Blk w g4 62 #[.pointer (some ⟨gM, 0, none⟩)]
  b5 : Blk w g5 62 #[.pointer (some ⟨gN, 0, none⟩)]
  m : MachA w base gM L va vl vb ac lf t
  n : MachA w base gN L va' vl' vb' ac' lf' t'
theorem TwoM.keep {w w' : World} {X : Nat → Prop} {base g4 g5 gM gN L : Nat} {va vl vb va' vl' vb' : Value} {ac ac' : List Bool} {lf lf' : List Nat} {t t' : List (List (List Nat))} (h : TwoM w base g4 g5 gM gN L va vl vb va' vl' vb' ac lf t ac' lf' t') (hk : Kept w w' X)
    (hX : ∀ k t cs, X k → Blk w k t cs → t ≠ 62 ∧ t ≠ 82 ∧ t ≠ 4 ∧ t ≠ 3 ∧ t ≠ 22 ∧ t ≠ 104) : TwoM w' base g4 g5 gM gN L va vl vb va' vl' vb' ac lf t ac' lf' t' :=
  ⟨h.b4.kept hk fun hx => (hX _ _ _ hx h.b4).1 rfl, h.b5.kept hk fun hx => (hX _ _ _ hx h.b5).1 rfl, h.m.keep hk fun k t cs hx hb => (hX k t cs hx hb).2, h.n.keep hk fun k t cs hx hb => (hX k t cs hx hb).2⟩

set_option maxHeartbeats 4000000 in
set_option maxRecDepth 100000 in
theorem prod_leaf {w : World} {base g4 g5 gM gN L x : Nat} {va vl vb va' vl' vb' : Value} {ac ac' : List Bool} {lf lf' : List Nat} {t t' : List (List (List Nat))} (h : TwoM w base g4 g5 gM gN L va vl vb va' vl' vb' ac lf t ac' lf' t')
    (hok : MOK L ac lf t) (hok' : MOK L ac' lf' t') (hx : x < L) :
    Calls Try.prog 89 #[.int .i64 (x : Int), .pointer (some ⟨g4, 0, none⟩), .pointer (some ⟨g5, 0, none⟩)] w (Ret fun v w' => v = encP (mleaf lf x, mleaf lf' x) ∧ Below w.heap.size w w') := by
  obtain ⟨w1, hw1, hb1, hB1, hk1⟩ := box_blk w #[.int .i64 0, .int .i64 0] 118
  have h1 := h.keep hk1 (fun _ _ _ h => h.elim)
  have hL1 := hok.lfl
  have hL2 := hok'.lfl
  obtain ⟨e1, he1⟩ := get_lt (l := lf) (i := x) (by omega)
  obtain ⟨e2, he2⟩ := get_lt (l := lf') (i := x) (by omega)
  obtain ⟨gl, cl, rfl, hcl⟩ := own_get h1.m.lfs (map_get (f := encN) he1)
  obtain ⟨gl', cl', rfl, hcl'⟩ := own_get h1.n.lfs (map_get (f := encN) he2)
  have hm1 : mleaf lf x = e1 := getD_some he1
  have hm2 : mleaf lf' x = e2 := getD_some he2
  rw [hm1, hm2]
  simp only [encN] at hcl hcl'
  have hc4 := h1.b4.cell 0
  have hc5 := h1.b5.cell 0
  have hcm := h1.m.blk.cell
  have hcn := h1.n.blk.cell
  have hcr := hB1.cell
  have hfr := hB1.frozen
  have hlr := hB1.lt
  clear he1 he2 hm1 hm2
  rw [hL1, hL2] at *
  go_enter Try.func89, Try.ntmps89
  go_wp2_with fail
  refine Reg.region_plain [0, 1, 3, 7, 0, 31, 63, 0, 128, 384, 896, 0, 3968, 8064, 16383, 32767] (by kernel_rfl) (by repeat (first | exact Reg.NoQ.body (fun _ _ h => h) (fun _ h => h) | refine Reg.NoQ.then ?_ | refine Reg.NoQ.inBlock ?_)) ?_
  go_wp2_with fail
  obtain ⟨wF, hwF, hgF, hkF⟩ := set2_facts (w := w1.drew) hB1 (.int .i64 (e1 : Int)) (.int .i64 (e2 : Int))
  change bodyPost _ _ _ _ _ (set2 w1.drew w.heap.size (.int .i64 (e1 : Int)) (.int .i64 (e2 : Int)))
  rw [hwF]
  have hcF := hgF.cell
  have hbF : Below w.heap.size w wF := (hb1.trans ((drew_below w1).mono hb1.size)).trans (hkF.below hb1.size (fun b hb e => by omega))
  exact bodyPost_ret (v := encP (e1, e2)) (by simp [results, Try.results89, go_sem, hcF, encP]) rfl ⟨rfl, hbF⟩

set_option maxHeartbeats 4000000 in
set_option maxRecDepth 100000 in
theorem prod_br {w : World} {base g4 g5 gM gN L x : Nat} {va vl vb va' vl' vb' : Value} {ac ac' : List Bool} {lf lf' : List Nat} {t t' : List (List (List Nat))} (h : TwoM w base g4 g5 gM gN L va vl vb va' vl' vb' ac lf t ac' lf' t')
    (hok : MOK L ac lf t) (hok' : MOK L ac' lf' t') (hx : x < L) {s u : Nat × Nat} (hs : s.1 < ac.length ∧ s.2 < ac'.length) (hu : u.1 < ac.length ∧ u.2 < ac'.length) :
    Calls Try.prog 90 #[.int .i64 (x : Int), encP s, encP u, .pointer (some ⟨g4, 0, none⟩), .pointer (some ⟨g5, 0, none⟩)] w (Ret fun v w' => v = encP (mbr t x s.1 u.1, mbr t' x s.2 u.2) ∧ Below w.heap.size w w') := by
  obtain ⟨s1, s2⟩ := s
  obtain ⟨u1, u2⟩ := u
  dsimp only at hs hu ⊢
  obtain ⟨w1, hw1, hb1, hB1, hk1⟩ := box_blk w #[.int .i64 (s1 : Int), .int .i64 (s2 : Int)] 118
  obtain ⟨w2, hw2, hb2, hB2, hk2⟩ := box_blk w1 #[.int .i64 (u1 : Int), .int .i64 (u2 : Int)] 118
  obtain ⟨w3, hw3, hb3, hB3, hk3⟩ := box_blk w2 #[.int .i64 0, .int .i64 0] 118
  have hsz1 := hb1.size
  have hsz2 := hb2.size
  have hb13 := (hb1.trans (hb2.mono hsz1)).trans (hb3.mono (by omega))
  have h3 := ((h.keep hk1 (fun _ _ _ h => h.elim)).keep hk2 (fun _ _ _ h => h.elim)).keep hk3 (fun _ _ _ h => h.elim)
  obtain ⟨gv, cv, gi, ci, gj, cj, rfl, hc1, hc2, hc3⟩ := h3.m.at hok hs.1 hu.1 hx
  obtain ⟨gv', cv', gi', ci', gj', cj', rfl, hc1', hc2', hc3'⟩ := h3.n.at hok' hs.2 hu.2 hx
  have hc4 := h3.b4.cell 0
  have hc5 := h3.b5.cell 0
  have hcm := h3.m.blk.cell
  have hcn := h3.n.blk.cell
  have hcs := ((hB1.kept hk2 id).kept hk3 id).cell
  have hcu := (hB2.kept hk3 id).cell
  have hcr := hB3.cell
  have hfr := hB3.frozen
  have hlr := hB3.lt
  obtain ⟨hs1, hs2⟩ := hs
  obtain ⟨hu1, hu2⟩ := hu
  have hH13 := hide hb13
  have hZ1 := hide hsz1
  have hZ2 := hide hsz2
  obtain ⟨e1, he1⟩ : ∃ e, mbr t x s1 u1 = e := ⟨_, rfl⟩
  obtain ⟨e2, he2⟩ : ∃ e, mbr t' x s2 u2 = e := ⟨_, rfl⟩
  rw [he1] at hc3 ⊢
  rw [he2] at hc3' ⊢
  clear he1 he2 hb13 hsz1 hsz2
  unfold encP
  go_enter Try.func90, Try.ntmps90
  go_wp2_with fail
  refine Reg.region_plain [0, 1, 3, 7, 0, 16, 63, 127, 0, 256, 1023, 2047, 0, 8191, 16383, 0, 32768, 98304, 229376, 0, 524288, 2064384, 4161536, 0, 8388608, 33521664, 67076096, 0, 268402688, 536838144, 1073741823, 2147483647] (by kernel_rfl) (by repeat (first | exact Reg.NoQ.body (fun _ _ h => h) (fun _ h => h) | refine Reg.NoQ.then ?_ | refine Reg.NoQ.inBlock ?_)) ?_
  go_wp2_with fail
  obtain ⟨wF, hwF, hgF, hkF⟩ := set2_facts (w := w3.drew) hB3 (.int .i64 (e1 : Int)) (.int .i64 (e2 : Int))
  change bodyPost _ _ _ _ _ (set2 w3.drew w2.heap.size (.int .i64 (e1 : Int)) (.int .i64 (e2 : Int)))
  rw [hwF]
  have hcF := hgF.cell
  have hbF : Below w.heap.size w wF := (hH13.out.trans ((drew_below w3).mono hH13.out.size)).trans (hkF.below hH13.out.size (fun b hb e => by have := hZ1.out; have := hZ2.out; omega))
  exact bodyPost_ret (v := encP (e1, e2)) (by simp [results, Try.results90, go_sem, hcF, encP]) rfl ⟨rfl, hbF⟩

set_option maxHeartbeats 4000000 in
set_option maxRecDepth 100000 in
theorem prod_acc {w : World} {base g3 g4 g5 gM gN L : Nat} {va vl vb va' vl' vb' vj : Value} {j : Bool → Bool → Bool} {ac ac' : List Bool} {lf lf' : List Nat} {t t' : List (List (List Nat))} (h : TwoM w base g4 g5 gM gN L va vl vb va' vl' vb' ac lf t ac' lf' t')
    (h3 : Blk w g3 90 #[vj]) (hj : Op3 vj j) {s : Nat × Nat} (hs : s.1 < ac.length ∧ s.2 < ac'.length) :
    Calls Try.prog 91 #[encP s, .pointer (some ⟨g3, 0, none⟩), .pointer (some ⟨g4, 0, none⟩), .pointer (some ⟨g5, 0, none⟩)] w (Ret fun v w' => v = .bool (j (macc ac s.1) (macc ac' s.2)) ∧ Below w.heap.size w w') := by
  obtain ⟨s1, s2⟩ := s
  dsimp only at hs ⊢
  obtain ⟨w1, hw1, hb1, hB1, hk1⟩ := box_blk w #[.int .i64 (s1 : Int), .int .i64 (s2 : Int)] 118
  have h1 := h.keep hk1 (fun _ _ _ h => h.elim)
  obtain ⟨b1, hb1'⟩ := get_lt (l := ac) (i := s1) hs.1
  obtain ⟨b2, hb2'⟩ := get_lt (l := ac') (i := s2) hs.2
  obtain ⟨ga, ca, rfl, hca⟩ := own_get h1.m.acc (map_get (f := Value.bool) hb1')
  obtain ⟨ga', ca', rfl, hca'⟩ := own_get h1.n.acc (map_get (f := Value.bool) hb2')
  have hm1 : macc ac s1 = b1 := getD_some hb1'
  have hm2 : macc ac' s2 = b2 := getD_some hb2'
  rw [hm1, hm2]
  have hc3 := (h3.kept hk1 id).cell 0
  have hc4 := h1.b4.cell 0
  have hc5 := h1.b5.cell 0
  have hcm := h1.m.blk.cell
  have hcn := h1.n.blk.cell
  have hcs := hB1.cell
  obtain ⟨hs1, hs2⟩ := hs
  have hst := hide (hb1.trans ((drew_below w1).mono hb1.size))
  clear hb1' hb2' hm1 hm2 hb1
  unfold encP
  rcases hj with ⟨rfl, rfl⟩ | ⟨rfl, rfl⟩ | ⟨rfl, rfl⟩
  · go_enter Try.func91, Try.ntmps91
    go_wp2_with fail
    refine Reg.region_plain [0, 1, 0, 4, 12, 28, 0, 64, 252, 508, 0, 1024, 3072, 7168, 0, 16384, 64512, 130048, 262143, 524287] (by kernel_rfl) (by repeat (first | exact Reg.NoQ.body (fun _ _ h => h) (fun _ h => h) | refine Reg.NoQ.then ?_ | refine Reg.NoQ.inBlock ?_)) ?_
    go_wp2_with fail
    refine (join86 b1 b2 _).mono ?_
    rintro e w5 ⟨rfl, rfl⟩
    go_wp2_with fail
    go_ret
    exact ⟨rfl, hst.out⟩
  · go_enter Try.func91, Try.ntmps91
    go_wp2_with fail
    refine Reg.region_plain [0, 1, 0, 4, 12, 28, 0, 64, 252, 508, 0, 1024, 3072, 7168, 0, 16384, 64512, 130048, 262143, 524287] (by kernel_rfl) (by repeat (first | exact Reg.NoQ.body (fun _ _ h => h) (fun _ h => h) | refine Reg.NoQ.then ?_ | refine Reg.NoQ.inBlock ?_)) ?_
    go_wp2_with fail
    refine (join87 b1 b2 _).mono ?_
    rintro e w5 ⟨rfl, rfl⟩
    go_wp2_with fail
    go_ret
    exact ⟨rfl, hst.out⟩
  · go_enter Try.func91, Try.ntmps91
    go_wp2_with fail
    refine Reg.region_plain [0, 1, 0, 4, 12, 28, 0, 64, 252, 508, 0, 1024, 3072, 7168, 0, 16384, 64512, 130048, 262143, 524287] (by kernel_rfl) (by repeat (first | exact Reg.NoQ.body (fun _ _ h => h) (fun _ h => h) | refine Reg.NoQ.then ?_ | refine Reg.NoQ.inBlock ?_)) ?_
    go_wp2_with fail
    refine (join88 b1 b2 _).mono ?_
    rintro e w5 ⟨rfl, rfl⟩
    go_wp2_with fail
    go_ret
    exact ⟨rfl, hst.out⟩
end Go.Proofs.Ytnimlcbgeiajiaa

namespace Go.Proofs.Ytnimlcbgeiajiaa
open Go.RowKit

namespace PB
theorem built_get {S : Type} {L : Nat} {leaf : Nat → S} {br : Nat → S → S → S} {l : List S} {lf : List Nat} {t : List (List (List Nat))} (hl : lf.length = L) (hlf : LeafOK leaf l lf) (ht : TabOK L br l (fun _ => l.length) t) (htl : t.length = l.length) :
    (∀ x, x < L → l[mleaf lf x]? = some (leaf x)) ∧ ∀ x i j s u, x < L → l[i]? = some s → l[j]? = some u → l[mbr t x i j]? = some (br x s u) := by
  refine ⟨fun x hx => ?_, fun x i j s u hx hi hj => ?_⟩
  · obtain ⟨e, he⟩ := get_lt (l := lf) (i := x) (by omega)
    unfold mleaf
    rw [getD_some he]
    exact hlf x e he
  · obtain ⟨r, hr⟩ := get_lt (l := t) (i := i) (by rw [htl]; exact lt_of_get hi)
    obtain ⟨h1, h2⟩ := ht i r hr
    obtain ⟨row, hrow⟩ := get_lt (l := r) (i := j) (by rw [h1]; exact lt_of_get hj)
    obtain ⟨h3, h4⟩ := h2 j row hrow
    obtain ⟨e, he⟩ := get_lt (l := row) (i := x) (by omega)
    obtain ⟨s', u', e1, e2, e3⟩ := h4 x e he
    rw [hi] at e1; rw [hj] at e2
    injection e1 with e1; injection e2 with e2
    subst e1 e2
    unfold mbr
    rw [getD_some hr, getD_some hrow, getD_some he]
    exact e3
theorem built_ok {S : Type} {L : Nat} {leaf : Nat → S} {br : Nat → S → S → S} {acc : S → Bool} {l : List S} {lf : List Nat} {t : List (List (List Nat))} (hn : l.Nodup) (hR : ∀ s ∈ l, Reach L leaf br s) (hl : lf.length = L) (hlf : LeafOK leaf l lf)
    (ht : TabOK L br l (fun _ => l.length) t) (htl : t.length = l.length) :
    MOK L (l.map acc) lf t ∧ (∀ tr : Tr, tr.ok L → l[runT (mleaf lf) (mbr t) tr]? = some (runT leaf br tr)) ∧ ∀ tr : Tr, tr.ok L → macc (l.map acc) (runT (mleaf lf) (mbr t) tr) = acc (runT leaf br tr) := by
  obtain ⟨hx, hb⟩ := built_get hl hlf ht htl
  have hrun : ∀ tr : Tr, tr.ok L → l[runT (mleaf lf) (mbr t) tr]? = some (runT leaf br tr) := by
    intro tr
    induction tr with
    | leaf x => exact fun h => hx x h
    | node x s u ihs ihu => exact fun h => hb x _ _ _ _ h.1 (ihs h.2.1) (ihu h.2.2)
  refine ⟨⟨hl, by simp [htl], fun i r hr => ?_, ⟨fun x h => ?_, fun x p q h hp hq => ?_, fun q hq => ?_⟩⟩, hrun, fun tr h => ?_⟩
  · obtain ⟨h1, h2⟩ := ht i r hr
    exact ⟨by simpa using h1, fun j row hrow => (h2 j row hrow).1⟩
  · have := lt_of_get (hx x h)
    simpa using this
  · obtain ⟨s, hs⟩ := get_lt (l := l) (i := p) (by simpa using hp)
    obtain ⟨u, hu⟩ := get_lt (l := l) (i := q) (by simpa using hq)
    have := lt_of_get (hb x p q s u h hs hu)
    simpa using this
  · obtain ⟨s, hs⟩ := get_lt (l := l) (i := q) (by simpa using hq)
    obtain ⟨tr, h1, h2⟩ := reach_run.1 (hR s (List.mem_of_getElem? hs))
    have h3 := hrun tr h1
    rw [h2] at h3
    have : runT (mleaf lf) (mbr t) tr = q := by
      exact (List.getElem?_inj (lt_of_get h3) hn).1 (h3.trans hs.symm)
    exact reach_run.2 ⟨tr, h1, this⟩
  · unfold macc
    exact getD_some (map_get (hrun tr h))
end PB

def pLeaf (lf lf' : List Nat) (x : Nat) : Nat × Nat := (mleaf lf x, mleaf lf' x)
def pBr (t t' : List (List (List Nat))) (x : Nat) (s u : Nat × Nat) : Nat × Nat := (mbr t x s.1 u.1, mbr t' x s.2 u.2)
def pAcc (j : Bool → Bool → Bool) (ac ac' : List Bool) (s : Nat × Nat) : Bool := j (macc ac s.1) (macc ac' s.2)
theorem pRun (lf lf' : List Nat) (t t' : List (List (List Nat))) (tr : Tr) : runT (pLeaf lf lf') (pBr t t') tr = (runT (mleaf lf) (mbr t) tr, runT (mleaf lf') (mbr t') tr) := by
  induction tr with
  | leaf x => rfl
  | node x s u ihs ihu => simp only [runT, ihs, ihu]; rfl
theorem Blk.ty_eq {w : World} {g : Nat} {t t' : TypeId} {cs cs' : Array Value} (h : Blk w g t cs) (h' : Blk w g t' cs') : t' = t := by
  unfold Blk at h h'
  rw [h] at h'
  injection h' with h'
  injection h' with _ h'
  exact h'.symm
theorem Canon.congr {L n : Nat} {leaf : Nat → Nat} {br : Nat → Nat → Nat → Nat} {acc : Nat → Bool} {Λ Λ' : Tr → Bool} (h : Canon L n leaf br acc Λ) (hΛ : ∀ t : Tr, t.ok L → Λ t = Λ' t) : Canon L n leaf br acc Λ' :=
  ⟨h.isM, fun tr htr => (h.lang tr htr).trans (hΛ tr htr), fun tr u htr hu he => h.sep tr u htr hu fun r => EqT.congr (fun tr htr => (hΛ tr htr).symm) r tr u htr hu (he r), h.ord⟩
theorem pairs_mul {n n' : Nat} (l : List (Nat × Nat)) (hn : l.Nodup) (hs : ∀ s ∈ l, s.1 < n ∧ s.2 < n') : l.length ≤ n * n' := by
  have h1 := len_le l ((List.range n).flatMap fun a => (List.range n').map fun b => (a, b)) hn fun s hx => by
    obtain ⟨h1, h2⟩ := hs s hx
    exact List.mem_flatMap.2 ⟨s.1, List.mem_range.2 h1, List.mem_map.2 ⟨s.2, List.mem_range.2 h2, rfl⟩⟩
  have e : ∀ (f : Nat → List (Nat × Nat)) (m : Nat) (r : List Nat), (∀ a ∈ r, (f a).length = m) → (r.flatMap f).length = r.length * m := fun f m r => by
    induction r with
    | nil => intro _; simp
    | cons a r ih =>
      intro h
      rw [List.flatMap_cons, List.length_append, ih fun b hb => h b (by simp [hb]), h a (by simp), List.length_cons, Nat.add_mul]
      omega
  rw [e _ n' _ (fun a _ => by simp), List.length_range] at h1
  exact h1
theorem pairs_len {n n' : Nat} (h : n ≤ 64) (h' : n' ≤ 64) (l : List (Nat × Nat)) (hn : l.Nodup) (hs : ∀ s ∈ l, s.1 < n ∧ s.2 < n') : l.length ≤ 4096 := by
  have h1 := pairs_mul l hn hs
  have : n * n' ≤ 64 * 64 := Nat.mul_le_mul h h'
  omega

set_option maxHeartbeats 8000000 in
set_option maxRecDepth 100000 in
theorem product_any {w : World} {base gM gN L : Nat} {va vl vb va' vl' vb' vj : Value} {j : Bool → Bool → Bool} {ac ac' : List Bool} {lf lf' : List Nat} {t t' : List (List (List Nat))} (hM : MachA w base gM L va vl vb ac lf t) (hN : MachA w base gN L va' vl' vb' ac' lf' t')
    (hok : MOK L ac lf t) (hok' : MOK L ac' lf' t') (h0 : 0 < L) (hL : L ≤ 8) (hn : ac.length ≤ 64) (hn' : ac'.length ≤ 64) (hj : Op3 vj j) :
    Calls Try.prog 67 #[.agg #[vj], .pointer (some ⟨gM, 0, none⟩), .pointer (some ⟨gN, 0, none⟩)] w (Ret fun v w' => Below w.heap.size w w' ∧ ∃ (gR : Nat) (ar : List Bool) (lr : List Nat) (tr : List (List (List Nat))), v = .pointer (some ⟨gR, 0, none⟩) ∧ w.heap.size ≤ gR ∧
      Mach w' w.heap.size gR L ar lr tr ∧ MOK L ar lr tr ∧ ar.length ≤ ac.length * ac'.length ∧ Canon L ar.length (mleaf lr) (mbr tr) (macc ar) (fun u => j (macc ac (runT (mleaf lf) (mbr t) u)) (macc ac' (runT (mleaf lf') (mbr t') u)))) := by
  obtain ⟨w1, hw1, hb1, hB1, hk1⟩ := box_blk w #[vj] 90
  obtain ⟨w2, hw2, hb2, hB2, hk2⟩ := box_blk w1 #[.pointer (some ⟨gM, 0, none⟩)] 62
  obtain ⟨w3, hw3, hb3, hB3, hk3⟩ := box_blk w2 #[.pointer (some ⟨gN, 0, none⟩)] 62
  obtain ⟨w4, hw4, hb4, hB4, hk4⟩ := box_blk w3 #[.int .i64 (L : Int), .int .i64 0, .map none, .slice none 0 0, .func (.func 89) #[] #[.pointer (some ⟨w1.heap.size, 0, none⟩), .pointer (some ⟨w2.heap.size, 0, none⟩)], .func (.func 90) #[] #[.pointer (some ⟨w1.heap.size, 0, none⟩), .pointer (some ⟨w2.heap.size, 0, none⟩)], .func (.func 91) #[] #[.pointer (some ⟨w.heap.size, 0, none⟩), .pointer (some ⟨w1.heap.size, 0, none⟩), .pointer (some ⟨w2.heap.size, 0, none⟩)]] 125
  have hz1 := hide hb1.size
  have hz2 := hide hb2.size
  have hz3 := hide hb3.size
  have hz4 := hide hb4.size
  have hT3 : TwoM w3 base w1.heap.size w2.heap.size gM gN L va vl vb va' vl' vb' ac lf t ac' lf' t' :=
    ⟨hB2.kept hk3 id, hB3, ((hM.keep hk1 (fun _ _ _ h => h.elim)).keep hk2 (fun _ _ _ h => h.elim)).keep hk3 (fun _ _ _ h => h.elim), ((hN.keep hk1 (fun _ _ _ h => h.elim)).keep hk2 (fun _ _ _ h => h.elim)).keep hk3 (fun _ _ _ h => h.elim)⟩
  have hcm := hT3.m.blk.cell
  have hc4 := hT3.b4.cell 0
  have hT4 := hide (hT3.keep hk4 (fun _ _ _ h => h.elim))
  have h34 := hide (((hB1.kept hk2 id).kept hk3 id).kept hk4 id)
  have hHB4 := hide hB4
  have hO1 := hide hok
  have hO2 := hide hok'
  have hJ := hide hj
  have hmf := run_mf
  clear hM hN hT3 hok hok' hj hB1 hB2 hB3 hB4 hk1 hk2 hk3 hk4
  go_enter Try.func67, Try.ntmps67
  go_wp2_with fail
  have hX : ∀ (k : Nat) (t0 : TypeId) (cs : Array Value), k = w3.heap.size → Blk w4 k t0 cs → t0 = 125 := fun k t0 cs e hb => by
    subst e
    exact hHB4.out.ty_eq hb
  have hC : PB.ClosU w4 w3.heap.size L (.pointer (some ⟨w1.heap.size, 0, none⟩)) (.pointer (some ⟨w2.heap.size, 0, none⟩)) (.pointer (some ⟨w.heap.size, 0, none⟩)) (pLeaf lf lf') (pBr t t') (pAcc j ac ac') (fun s => s.1 < ac.length ∧ s.2 < ac'.length) := by
    refine ⟨fun w' hk x hx => ?_, fun w' hk x s u hx hs hu => ?_, fun w' hk s hs => ?_, fun x hx => ⟨hO1.out.isM.leaf_lt x hx, hO2.out.isM.leaf_lt x hx⟩, fun x s u hx hs hu => ⟨hO1.out.isM.br_lt x _ _ hx hs.1 hu.1, hO2.out.isM.br_lt x _ _ hx hs.2 hu.2⟩, pairs_len hn hn'⟩
    · exact prod_leaf (hT4.out.keep hk fun k t0 cs e hb => by rw [hX k t0 cs e hb]; decide) hO1.out hO2.out hx
    · exact prod_br (hT4.out.keep hk fun k t0 cs e hb => by rw [hX k t0 cs e hb]; decide) hO1.out hO2.out hx hs hu
    · exact prod_acc (hT4.out.keep hk fun k t0 cs e hb => by rw [hX k t0 cs e hb]; decide) (h34.out.kept hk fun e => by have := hX _ _ _ e h34.out; revert this; decide) hJ.out hs
  refine Calls.ret (PB.buildU hC h0 hL hHB4.out) ?_
  rintro v w5 ⟨hk5, l, hn5, hR5, hP5, gB, lfb, tb, rfl, hgB, ⟨vA, vL, vB, hMb⟩, hlb, hLb, hTb, htb, hl5⟩
  obtain ⟨hokb, -, haccb⟩ := PB.built_ok (acc := pAcc j ac ac') hn5 hR5 hlb hLb hTb htb
  have hMM := hide hMb
  have hOO := hide hokb
  have hAA := hide haccb
  have hlen : (l.map (pAcc j ac ac')).length ≤ 4096 := by simpa using hl5
  have hmul : (l.map (pAcc j ac ac')).length ≤ ac.length * ac'.length := by simpa using pairs_mul l hn5 hP5
  have hpos := hokb.pos h0
  have hz5 := hide hk5.size
  have hK5 := hide hk5
  clear hC hX hk5 hn5 hR5 hP5 hMb hlb hLb hTb htb hokb haccb hcm hc4
  go_wp2_with fail
  refine Calls.ret (minimal_any hMM.out hOO.out h0 hL (by omega) hpos) ?_
  rintro v w6 ⟨hb6, gR, ar, lr, tr, rfl, hgR, hMr, hokr, hler, hcan⟩
  have hM6 := hide hMr
  have hO6 := hide hokr
  have hC6 := hide hcan
  have hB6 := hide hb6
  clear hMr hokr hcan hb6
  go_wp2_with fail
  go_ret
  have z1 := hz1.out
  have z2 := hz2.out
  have z3 := hz3.out
  have z4 := hz4.out
  have z5 := hz5.out
  have hbel : Below w.heap.size w w6 := ((((hb1.trans (hb2.mono z1)).trans (hb3.mono (by omega))).trans (hb4.mono (by omega))).trans (hK5.out.below (by omega) fun b hb e => by omega)).trans (hB6.out.mono (by omega))
  refine ⟨hbel, gR, ar, lr, tr, rfl, by omega, hM6.out.weak (by omega), hO6.out, Nat.le_trans hler hmul, hC6.out.congr fun u hu => ?_⟩
  rw [hAA.out u hu, pRun]
  rfl
end Go.Proofs.Ytnimlcbgeiajiaa

namespace Go.Proofs.Ytnimlcbgeiajiaa
open Go.RowKit

/-- A slice that reads as a list of automata. -/
def TAs (w : World) (B : Nat) (A : Option Addr) (l : List TA) : Prop :=
  l.length ≤ 9223372036854775807 ∧ (l ≠ [] → ∃ b off, A = some ⟨b, off, none⟩ ∧ b < B ∧ ∀ k a, l[k]? = some a → ∃ A1 c1 A2 c2 A3 c3, 
    w.cell? ⟨b, off + k * 5, none⟩ = some (.int .i64 a.letters) ∧ w.cell? ⟨b, off + k * 5 + 1, none⟩ = some (.int .i64 a.states) ∧ w.cell? ⟨b, off + k * 5 + 2, none⟩ = some (.slice A1 a.accept.length c1) ∧
    w.cell? ⟨b, off + k * 5 + 3, none⟩ = some (.slice A2 a.leaves.length c2) ∧ w.cell? ⟨b, off + k * 5 + 4, none⟩ = some (.slice A3 a.branches.length c3) ∧
    Sl w B 1 encI A1 a.accept ∧ Sl w B 2 encL A2 a.leaves ∧ Sl w B 4 encBr A3 a.branches)
theorem TAs.keep {w w' : World} {B B' : Nat} {A : Option Addr} {l : List TA} (h : TAs w B A l) (hk : ∀ p : Addr, p.block < B → w'.cell? p = w.cell? p) (hB : B ≤ B') : TAs w' B' A l :=
  ⟨h.1, fun hn => by
    obtain ⟨b, off, e, hb, hc⟩ := h.2 hn
    refine ⟨b, off, e, by omega, fun k a hk' => ?_⟩
    obtain ⟨A1, c1, A2, c2, A3, c3, q0, q1, q2, q3, q4, s1, s2, s3⟩ := hc k a hk'
    exact ⟨A1, c1, A2, c2, A3, c3, (hk _ hb).trans q0, (hk _ hb).trans q1, (hk _ hb).trans q2, (hk _ hb).trans q3, (hk _ hb).trans q4, s1.keep hk hB, s2.keep hk hB, s3.keep hk hB⟩⟩
theorem TAs.at {w : World} {B : Nat} {A : Option Addr} {l : List TA} (h : TAs w B A l) {k : Nat} (hk : k < l.length) : ∃ b off a A1 c1 A2 c2 A3 c3, A = some ⟨b, off, none⟩ ∧ b < B ∧ l[k]? = some a ∧
    w.cell? ⟨b, off + k * 5, none⟩ = some (.int .i64 a.letters) ∧ w.cell? ⟨b, off + k * 5 + 1, none⟩ = some (.int .i64 a.states) ∧ w.cell? ⟨b, off + k * 5 + 2, none⟩ = some (.slice A1 a.accept.length c1) ∧
    w.cell? ⟨b, off + k * 5 + 3, none⟩ = some (.slice A2 a.leaves.length c2) ∧ w.cell? ⟨b, off + k * 5 + 4, none⟩ = some (.slice A3 a.branches.length c3) ∧
    Sl w B 1 encI A1 a.accept ∧ Sl w B 2 encL A2 a.leaves ∧ Sl w B 4 encBr A3 a.branches := by
  obtain ⟨b, off, e, hb, hc⟩ := h.2 (by rintro rfl; simp at hk)
  obtain ⟨a, ha⟩ := get_lt hk
  obtain ⟨A1, c1, A2, c2, A3, c3, r⟩ := hc k a ha
  exact ⟨b, off, a, A1, c1, A2, c2, A3, c3, e, hb, ha, r⟩

/-- What check asks. -/
def chkL (l : List TA) : Bool := l.all TA.valid && l.all fun a => decide (a.letters = (l.headD ⟨0, 0, [], [], []⟩).letters)

set_option maxHeartbeats 8000000 in
set_option maxRecDepth 100000 in
theorem check_any {w : World} {c : Nat} {A : Option Addr} {l : List TA} (h : TAs w w.heap.size A l) :
    Calls Try.prog 85 #[.slice A l.length c] w (Ret fun r w' => r = .int .i64 (errno (chkL l)) ∧ Below w.heap.size w w') := by
  have hn := h.1
  go_enter Try.func85, Try.ntmps85
  go_wp2_with fail
  go_loopw [10] (fun ii wr => ∃ (k : Nat), ii = .int .i64 (k : Int) ∧ k ≤ l.length ∧ Below w.heap.size w wr ∧ Hid ((l.take k).all TA.valid = true)) (fun ii _ => l.length - (intOf ii).toNat)
  case atStart => exact ⟨0, rfl, Nat.zero_le _, Below.refl _ _, rfl⟩
  case round =>
    obtain ⟨k, rfl, hk, hB, hV⟩ := hrel
    by_cases hlt : k < l.length
    · obtain ⟨b, off, a, A1, c1, A2, c2, A3, c3, rfl, hb, ha, q0, q1, q2, q3, q4, s1, s2, s3⟩ := h.at hlt
      have q0' := (hB.cell (by exact hb)).trans q0
      have q1' := (hB.cell (by exact hb)).trans q1
      have q2' := (hB.cell (by exact hb)).trans q2
      have q3' := (hB.cell (by exact hb)).trans q3
      have q4' := (hB.cell (by exact hb)).trans q4
      obtain ⟨w2, hw2, hb2, hB2, hk2⟩ := box_blk wr #[.int .i64 a.letters, .int .i64 a.states, .slice A1 a.accept.length c1, .slice A2 a.leaves.length c2, .slice A3 a.branches.length c3] 26
      have hszr := hB.size
      have hb02 := hB.trans (hb2.mono hszr)
      have hT : IsTA w2 w2.heap.size (.agg #[.int .i64 a.letters, .int .i64 a.states, .slice A1 a.accept.length c1, .slice A2 a.leaves.length c2, .slice A3 a.branches.length c3]) a :=
        IsTA.keep ⟨A1, c1, A2, c2, A3, c3, rfl, s1, s2, s3⟩ (fun _ hp => hb02.cell hp) hb02.size
      have hHT := hide hT
      have hcb := hB2.cell
      have hH02 := hide hb02
      have hsz02 := hb02.size
      have hA := hide ha
      clear q0 q1 q2 q3 q4 s1 s2 s3 hT ha
      cases hv : a.valid
      · have hVV := hide hv
        clear hv
        go_wp2_with (go_at_call 18; refine (validate_any _ _ _ hHT.out).mono ?_; rintro e w3 ⟨rfl, hb3⟩; rw [hVV.out]; simp only [errno]; have hb33 := hide hb3; clear hb3)
        go_ret
        refine ⟨?_, hH02.out.trans (hb33.out.mono hsz02)⟩
        have : chkL l = false := by
          unfold chkL
          have h1 : l.all TA.valid = false := List.all_eq_false.2 ⟨a, List.mem_of_getElem? hA.out, by rw [hVV.out]; simp⟩
          rw [h1]
          rfl
        rw [this]
        rfl
      · have hVV := hide hv
        clear hv
        go_wp2_with (go_at_call 18; refine (validate_any _ _ _ hHT.out).mono ?_; rintro e w3 ⟨rfl, hb3⟩; rw [hVV.out]; simp only [errno]; have hb33 := hide hb3; clear hb3)
        refine ⟨⟨k + 1, by go_num, by omega, hH02.out.trans (hb33.out.mono hsz02), ?_⟩, by simp [intOf]; omega⟩
        exact all_take_succ hA.out hV.out hVV.out
    · have hVA : Hid (l.all TA.valid = true) := by
        have := hV.out
        rwa [List.take_of_length_le (by omega)] at this
      have hHB := hide hB
      go_wp2_with fail
      obtain ⟨wa, hwa⟩ : ∃ wa : World, wa = wr := ⟨_, rfl⟩
      have hBa := hide hB
      go_loopw [22] (fun ii ws => ∃ (k : Nat), ii = .int .i64 (k : Int) ∧ k ≤ l.length ∧ Below w.heap.size w ws ∧ Hid ((l.take k).all (fun a => decide (a.letters = (l.headD ⟨0, 0, [], [], []⟩).letters)) = true)) (fun ii _ => l.length - (intOf ii).toNat)
      case atStart => exact ⟨0, rfl, Nat.zero_le _, hB, rfl⟩
      case round =>
        obtain ⟨k', rfl, hk', hB', hV'⟩ := hrel
        by_cases hlt' : k' < l.length
        · obtain ⟨b, off, a, A1, c1, A2, c2, A3, c3, rfl, hb, ha, q0, q1, q2, q3, q4, s1, s2, s3⟩ := h.at hlt'
          obtain ⟨b0, off0, a0, A10, c10, A20, c20, A30, c30, e0, hb0, ha0, p0, -⟩ := h.at (k := 0) (by omega)
          have e0 := Option.some.inj e0
          injection e0 with e0 e1 _
          subst e0 e1
          have q0' := (hB'.cell (by exact hb)).trans q0
          have q1' := (hB'.cell (by exact hb)).trans q1
          have q2' := (hB'.cell (by exact hb)).trans q2
          have q3' := (hB'.cell (by exact hb)).trans q3
          have q4' := (hB'.cell (by exact hb)).trans q4
          have hhead : l.headD ⟨0, 0, [], [], []⟩ = a0 := by
            cases l with
            | nil => simp at ha0
            | cons x xs => simp at ha0; simp [ha0]
          rw [Nat.zero_mul, Nat.add_zero] at p0
          obtain ⟨w2, hw2, hb2, hB2, hk2⟩ := box_blk wr #[.int .i64 a.letters, .int .i64 a.states, .slice A1 a.accept.length c1, .slice A2 a.leaves.length c2, .slice A3 a.branches.length c3] 26
          have hszr := hB'.size
          have hb02 := hB'.trans (hb2.mono hszr)
          have p0' := (hb02.cell (by exact hb)).trans p0
          have hcb := hB2.cell
          have hst := hide (hb02.trans ((drew_below w2).mono hb02.size))
          have hA := hide ha
          have hHD := hide hhead
          clear q0 q1 q2 q3 q4 s1 s2 s3 ha ha0 p0 hhead
          by_cases he : a.letters = a0.letters
          · have heq : (a.letters == a0.letters) = true := by simp [he]
            have hE := hide he
            clear he
            go_wp2_with fail
            refine Reg.region_plain [0, 1, 0, 4, 12, 28, 63] (by kernel_rfl) (by repeat (first | exact Reg.NoQ.body (fun _ _ h => h) (fun _ h => h) | refine Reg.NoQ.then ?_ | refine Reg.NoQ.inBlock ?_)) ?_
            go_wp2_with fail
            refine ⟨⟨k' + 1, by go_num, by omega, hst.out, ?_⟩, by simp [intOf]; omega⟩
            exact all_take_succ hA.out hV'.out (by rw [hHD.out]; simpa using hE.out)
          · have heq : (a.letters == a0.letters) = false := by simpa using he
            have hE := hide he
            clear he
            go_wp2_with fail
            refine Reg.region_plain [0, 1, 0, 4, 12, 28, 63] (by kernel_rfl) (by repeat (first | exact Reg.NoQ.body (fun _ _ h => h) (fun _ h => h) | refine Reg.NoQ.then ?_ | refine Reg.NoQ.inBlock ?_)) ?_
            go_wp2_with fail
            go_ret
            refine ⟨?_, hst.out⟩
            have : chkL l = false := by
              unfold chkL
              rw [hHD.out]
              have h1 : (l.all fun a => decide (a.letters = a0.letters)) = false := List.all_eq_false.2 ⟨a, List.mem_of_getElem? hA.out, by simpa using hE.out⟩
              rw [h1, Bool.and_false]
            rw [this]
            rfl
        · go_wp2_with fail
          go_ret
          refine ⟨?_, hB'⟩
          have : chkL l = true := by
            unfold chkL
            have h1 := hV'.out
            rw [List.take_of_length_le (by omega)] at h1
            rw [h1, hVA.out]
            rfl
          rw [this]
          rfl
end Go.Proofs.Ytnimlcbgeiajiaa

namespace Go.Proofs.Ytnimlcbgeiajiaa
open Go.RowKit

set_option maxHeartbeats 4000000 in
set_option maxRecDepth 100000 in
theorem index_any {w : World} {base c : Nat} {A : Option Addr} {ac : List Bool} (h : w.ownsRow base 4 1 (.slice A ac.length c) ac.length (ac.map .bool)) (hn : ac.length ≤ 100000) :
    Calls Try.prog 111 #[.slice A ac.length c, .bool true] w fun e w' => (∃ x : Int, e = .returned (.int .i64 x) ∧ (0 ≤ x ↔ true ∈ ac)) ∧ w = w' := by
  have hH := hide h
  clear h
  go_enter Try.func111, Try.ntmps111
  go_wp2_with fail
  go_loop [8] (fun ii => ∃ (k : Nat), ii = .int .i64 (k : Int) ∧ k ≤ ac.length ∧ Hid (∀ j, j < k → ac[j]? = some false)) (fun ii => ac.length - (intOf ii).toNat)
  case atStart => exact ⟨0, rfl, Nat.zero_le _, fun j hj => absurd hj (by omega)⟩
  case round =>
    obtain ⟨k, rfl, hk, hE⟩ := hrel
    by_cases hlt : k < ac.length
    · obtain ⟨b, hb⟩ := get_lt hlt
      obtain ⟨g, cap, hg, hc⟩ := own_get hH.out (map_get (f := Value.bool) hb)
      injection hg with hg _ hcc
      subst hg hcc
      have hB := hide hb
      clear hb
      cases b
      · go_wp2_with fail
        refine ⟨⟨k + 1, by go_num, by omega, fun j hj => ?_⟩, by simp [intOf]; omega⟩
        by_cases e : j = k
        · subst e; exact hB.out
        · exact hE.out j (by omega)
      · go_wp2_with fail
        go_ret
        refine ⟨⟨_, rfl, ?_⟩, rfl⟩
        exact ⟨fun _ => List.mem_of_getElem? hB.out, fun _ => by omega⟩
    · go_wp2_with fail
      go_ret
      refine ⟨⟨_, rfl, ?_⟩, rfl⟩
      constructor
      · intro h; omega
      · intro h
        obtain ⟨j, hj⟩ := List.mem_iff_getElem?.1 h
        have h2 := hE.out j (by have := lt_of_get hj; omega)
        rw [hj] at h2
        cases h2

set_option maxHeartbeats 4000000 in
theorem contains_any {w : World} {base c : Nat} {A : Option Addr} {ac : List Bool} (h : w.ownsRow base 4 1 (.slice A ac.length c) ac.length (ac.map .bool)) (hn : ac.length ≤ 100000) :
    Calls Try.prog 93 #[.slice A ac.length c, .bool true] w fun e w' => e = .returned (.bool (decide (true ∈ ac))) ∧ w = w' := by
  go_enter Try.func93, Try.ntmps93
  go_wp2_with fail
  refine (index_any h hn).mono ?_
  rintro e w' ⟨⟨x, rfl, hx⟩, rfl⟩
  by_cases h0 : (0 : Int) ≤ x
  · have hm := hide (decide_eq_true (hx.1 h0))
    clear hx
    go_wp2_with fail
    go_ret
    exact ⟨by rw [hm.out]; simp, rfl⟩
  · have hm := hide (decide_eq_false fun hh => h0 (hx.2 hh))
    clear hx
    go_wp2_with fail
    go_ret
    exact ⟨by rw [hm.out]; simp [h0], rfl⟩

set_option maxHeartbeats 4000000 in
theorem empty_any {w : World} {base gM L : Nat} {va vl vb : Value} {ac : List Bool} {lf : List Nat} {t : List (List (List Nat))} (hM : MachA w base gM L va vl vb ac lf t) (hn : ac.length ≤ 100000) :
    Calls Try.prog 68 #[.pointer (some ⟨gM, 0, none⟩)] w fun e w' => e = .returned (.bool (!decide (true ∈ ac))) ∧ w = w' := by
  obtain ⟨A, c, rfl⟩ := slice_of_own hM.acc
  have hcm := hM.blk.cell
  go_enter Try.func68, Try.ntmps68
  go_wp2_with fail
  refine (contains_any hM.acc hn).mono ?_
  rintro e w' ⟨rfl, rfl⟩
  cases hd : decide (true ∈ ac)
  all_goals
    go_wp2_with fail
    go_ret
    exact ⟨by simp; simpa using hd, rfl⟩

/-- The three operations. -/
theorem op_any {f j : Nat} (hf : f = 62 ∧ j = 86 ∨ f = 64 ∧ j = 87 ∨ f = 66 ∧ j = 88) (w : World) : Calls Try.prog f #[] w (Ret fun v w' => v = .agg #[.func (.func j) #[] #[]] ∧ Below w.heap.size w w') := by
  obtain ⟨w1, hw1, hb1, hB1, hk1⟩ := box_blk w #[.nilFunc] 90
  have hc := hB1.cell
  have hfr := hB1.frozen
  have hl := hB1.lt
  rcases hf with ⟨rfl, rfl⟩ | ⟨rfl, rfl⟩ | ⟨rfl, rfl⟩
  · go_enter Try.func62, Try.ntmps62
    go_wp2_with fail
    have hgF := hB1.set_ 0 (.func (.func 86) #[] #[])
    have hkF : Kept w1 (w1.setCell ⟨w.heap.size, 0, none⟩ (.func (.func 86) #[] #[])) (fun k => k = w.heap.size) := (Kept.refl w1 (fun k => k = w.heap.size)).setCell (p := ⟨w.heap.size, 0, none⟩) (fun _ => rfl) _
    generalize w1.setCell ⟨w.heap.size, 0, none⟩ (.func (.func 86) #[] #[]) = wF at *
    have hcF := hgF.cell
    exact bodyPost_ret (v := .agg #[.func (.func 86) #[] #[]]) (by simp [results, Try.results62, go_sem, hcF]) rfl ⟨rfl, hb1.trans (hkF.below hb1.size fun b hb e => by omega)⟩
  · go_enter Try.func64, Try.ntmps64
    go_wp2_with fail
    have hgF := hB1.set_ 0 (.func (.func 87) #[] #[])
    have hkF : Kept w1 (w1.setCell ⟨w.heap.size, 0, none⟩ (.func (.func 87) #[] #[])) (fun k => k = w.heap.size) := (Kept.refl w1 (fun k => k = w.heap.size)).setCell (p := ⟨w.heap.size, 0, none⟩) (fun _ => rfl) _
    generalize w1.setCell ⟨w.heap.size, 0, none⟩ (.func (.func 87) #[] #[]) = wF at *
    have hcF := hgF.cell
    exact bodyPost_ret (v := .agg #[.func (.func 87) #[] #[]]) (by simp [results, Try.results64, go_sem, hcF]) rfl ⟨rfl, hb1.trans (hkF.below hb1.size fun b hb e => by omega)⟩
  · go_enter Try.func66, Try.ntmps66
    go_wp2_with fail
    have hgF := hB1.set_ 0 (.func (.func 88) #[] #[])
    have hkF : Kept w1 (w1.setCell ⟨w.heap.size, 0, none⟩ (.func (.func 88) #[] #[])) (fun k => k = w.heap.size) := (Kept.refl w1 (fun k => k = w.heap.size)).setCell (p := ⟨w.heap.size, 0, none⟩) (fun _ => rfl) _
    generalize w1.setCell ⟨w.heap.size, 0, none⟩ (.func (.func 88) #[] #[]) = wF at *
    have hcF := hgF.cell
    exact bodyPost_ret (v := .agg #[.func (.func 88) #[] #[]]) (by simp [results, Try.results66, go_sem, hcF]) rfl ⟨rfl, hb1.trans (hkF.below hb1.size fun b hb e => by omega)⟩

/-- What pair returns. -/
def PairR (w' : World) (base : Nat) (a b : TA) (r : Value) : Prop :=
  (chkL [a, b] = false ∧ ∃ x y, r = .tuple #[x, y, .int .i64 1]) ∨
  (chkL [a, b] = true ∧ (a.Large ∨ b.Large) ∧ ∃ x y, r = .tuple #[x, y, .int .i64 4]) ∨
  (chkL [a, b] = true ∧ ¬ a.Large ∧ ¬ b.Large ∧ ∃ gM ac lf t gN ac' lf' t', r = .tuple #[.pointer (some ⟨gM, 0, none⟩), .pointer (some ⟨gN, 0, none⟩), .int .i64 0] ∧
    Mach w' base gM a.letters.toNat ac lf t ∧ MOK a.letters.toNat ac lf t ∧ ac.length ≤ 64 ∧ Canon a.letters.toNat ac.length (mleaf lf) (mbr t) (macc ac) a.lang ∧
    Mach w' base gN a.letters.toNat ac' lf' t' ∧ MOK a.letters.toNat ac' lf' t' ∧ ac'.length ≤ 64 ∧ Canon a.letters.toNat ac'.length (mleaf lf') (mbr t') (macc ac') b.lang)
theorem chk2 {a b : TA} : chkL [a, b] = true ↔ a.valid = true ∧ b.valid = true ∧ b.letters = a.letters := by
  simp [chkL, and_assoc]
theorem Mach.keep0 {w w' : World} {base gM L : Nat} {ac : List Bool} {lf : List Nat} {t : List (List (List Nat))} (h : Mach w base gM L ac lf t) (hk : Kept w w' (fun _ => False)) : Mach w' base gM L ac lf t := by
  obtain ⟨va, vl, vb, h⟩ := h
  exact ⟨va, vl, vb, h.keep hk fun _ _ _ h => h.elim⟩

set_option maxHeartbeats 8000000 in
set_option maxRecDepth 100000 in
theorem pair_any {v v' : Value} {a b : TA} {w : World} (h : IsTA w w.heap.size v a) (h' : IsTA w w.heap.size v' b) (ha : a.branches.length ≤ 900000) (hb : b.branches.length ≤ 900000) :
    Calls Try.prog 65 #[v, v'] w (Ret fun r w' => Below w.heap.size w w' ∧ PairR w' w.heap.size a b r) := by
  obtain ⟨A1, c1, A2, c2, A3, c3, rfl, h1, h2, h3⟩ := h
  obtain ⟨A4, c4, A5, c5, A6, c6, rfl, h4, h5, h6⟩ := h'
  obtain ⟨w1, hw1, hb1, hB1, hk1⟩ := box_blk w #[.int .i64 a.letters, .int .i64 a.states, .slice A1 a.accept.length c1, .slice A2 a.leaves.length c2, .slice A3 a.branches.length c3] 26
  obtain ⟨w2, hw2, hb2, hB2, hk2⟩ := box_blk w1 #[.int .i64 b.letters, .int .i64 b.states, .slice A4 b.accept.length c4, .slice A5 b.leaves.length c5, .slice A6 b.branches.length c6] 26
  obtain ⟨w3, hw3, hb3, hB3, hk3⟩ := box_blk w2 #[.int .i64 a.letters, .int .i64 a.states, .slice A1 a.accept.length c1, .slice A2 a.leaves.length c2, .slice A3 a.branches.length c3, .int .i64 b.letters, .int .i64 b.states, .slice A4 b.accept.length c4, .slice A5 b.leaves.length c5, .slice A6 b.branches.length c6] 26
  have z1 := hb1.size
  have z2 := hb2.size
  have z3 := hb3.size
  have hb03 := (hb1.trans (hb2.mono z1)).trans (hb3.mono (by omega))
  have hcb1 := (hB1.kept hk2 id).cell
  have hcb2 := hB2.cell
  have hT : IsTA w3 w3.heap.size (.agg #[.int .i64 a.letters, .int .i64 a.states, .slice A1 a.accept.length c1, .slice A2 a.leaves.length c2, .slice A3 a.branches.length c3]) a :=
    IsTA.keep ⟨A1, c1, A2, c2, A3, c3, rfl, h1, h2, h3⟩ (fun _ hp => hb03.cell hp) hb03.size
  have hT' : IsTA w3 w3.heap.size (.agg #[.int .i64 b.letters, .int .i64 b.states, .slice A4 b.accept.length c4, .slice A5 b.leaves.length c5, .slice A6 b.branches.length c6]) b :=
    IsTA.keep ⟨A4, c4, A5, c5, A6, c6, rfl, h4, h5, h6⟩ (fun _ hp => hb03.cell hp) hb03.size
  have hTAs : TAs w3 w3.heap.size (some ⟨w2.heap.size, 0, none⟩) [a, b] := by
    refine ⟨by simp, fun _ => ⟨w2.heap.size, 0, rfl, hB3.lt, fun k x hx => ?_⟩⟩
    have hk : ∀ p : Addr, p.block < w.heap.size → w3.cell? p = w.cell? p := fun p hp => hb03.cell hp
    match k, hx with
    | 0, hx =>
      simp at hx
      subst hx
      exact ⟨A1, c1, A2, c2, A3, c3, hB3.cell 0, hB3.cell 1, hB3.cell 2, hB3.cell 3, hB3.cell 4, h1.keep hk hb03.size, h2.keep hk hb03.size, h3.keep hk hb03.size⟩
    | 1, hx =>
      simp at hx
      subst hx
      exact ⟨A4, c4, A5, c5, A6, c6, hB3.cell 5, hB3.cell 6, hB3.cell 7, hB3.cell 8, hB3.cell 9, h4.keep hk hb03.size, h5.keep hk hb03.size, h6.keep hk hb03.size⟩
    | k + 2, hx => simp at hx
  have hHT := hide hT
  have hHT' := hide hT'
  have hHS := hide hTAs
  have hH03 := hide hb03
  have hB13 := (hB1.kept hk2 id).kept hk3 id
  have hB23 := hB2.kept hk3 id
  have hbsz := hide hb03.size
  clear h1 h2 h3 h4 h5 h6 hT hT' hTAs hb03 z1 z2 z3
  go_enter Try.func65, Try.ntmps65
  go_wp2_with fail
  have hck := check_any (c := 2) hHS.out
  simp only [List.length_cons, List.length_nil] at hck
  refine Calls.ret hck ?_
  clear hck
  rintro v w4 ⟨rfl, hb4⟩
  have hb04 : Below w.heap.size w w4 := hH03.out.trans (hb4.mono hbsz.out)
  have z4 := hb4.size
  have hB14 := hB13.kept (Kept.of_below hb4 (fun _ => False)) id
  have hB24 := hB23.kept (Kept.of_below hb4 (fun _ => False)) id
  have hcb4 := hB14.cell
  have hdb4 := hB24.cell
  have hT4 := hide (hHT.out.keep (fun _ hp => hb4.cell hp) z4)
  have hT4' := hide (hHT'.out.keep (fun _ hp => hb4.cell hp) z4)
  have hH04 := hide hb04
  have hbs4 := hide hb04.size
  cases hc : chkL [a, b] with
  | false =>
    simp only [errno]
    have hC := hide hc
    clear hc hb04 hb4 z4 hcb1 hcb2
    go_wp2_with fail
    exact bodyPost_ret (v := .tuple #[.pointer none, .pointer none, .int .i64 1]) (by simp [results, Try.results65, go_sem]) rfl ⟨hH04.out, .inl ⟨hC.out, _, _, rfl⟩⟩
  | true =>
    simp only [errno]
    have hC := hide hc
    obtain ⟨hva, hvb, hlab⟩ := chk2.1 hc
    have hVA := hide hva
    have hVB := hide hvb
    have hLAB := hide hlab
    clear hc hb04 hb4 z4 hcb1 hcb2 hva hvb hlab
    go_wp2_with fail
    refine Calls.ret (treeMin_any _ a w4 hT4.out hVA.out ha) ?_
    rintro v w5 ⟨hb5, hres5⟩
    have hH05 := hide (hH04.out.trans (hb5.mono hbs4.out))
    have z5 := hide hb5.size
    have hdb5 := (hB24.kept (Kept.of_below hb5 (fun _ => False)) id).cell
    have hT5' := hide (hT4'.out.keep (fun _ hp => hb5.cell hp) z5.out)
    rcases hres5 with ⟨rfl, hlg⟩ | ⟨gM, ac, lf, t, rfl, hgM, hM, hok, h64, hnl, hcan⟩
    · have hLG := hide hlg
      clear hlg hb5
      go_wp2_with fail
      exact bodyPost_ret (v := .tuple #[.pointer none, .pointer none, .int .i64 4]) (by simp [results, Try.results65, go_sem]) rfl ⟨hH05.out, .inr (.inl ⟨hC.out, .inl hLG.out, _, _, rfl⟩)⟩
    · have hMM := hide hM
      have hOO := hide hok
      have hNL := hide hnl
      have hCN := hide hcan
      clear hM hok hnl hcan hb5
      go_wp2_with fail
      refine Calls.ret (treeMin_any _ b w5 hT5'.out hVB.out hb) ?_
      rintro v w6 ⟨hb6, hres6⟩
      have hH06 := hide (hH05.out.trans (hb6.mono hH05.out.size))
      have hM6 := hide (hMM.out.keep0 (Kept.of_below hb6 (fun _ => False)))
      have hbs5 := hide hH05.out.size
      rcases hres6 with ⟨rfl, hlg⟩ | ⟨gN, ac', lf', t', rfl, hgN, hN, hok', h64', hnl', hcan'⟩
      · have hLG := hide hlg
        clear hlg hb6
        go_wp2_with fail
        exact bodyPost_ret (v := .tuple #[.pointer (some ⟨gM, 0, none⟩), .pointer none, .int .i64 4]) (by simp [results, Try.results65, go_sem]) rfl ⟨hH06.out, .inr (.inl ⟨hC.out, .inr hLG.out, _, _, rfl⟩)⟩
      · have hNN := hide hN
        have hOO' := hide hok'
        have hNL' := hide hnl'
        have hCN' := hide hcan'
        clear hN hok' hnl' hcan' hb6
        go_wp2_with fail
        refine bodyPost_ret (v := .tuple #[.pointer (some ⟨gM, 0, none⟩), .pointer (some ⟨gN, 0, none⟩), .int .i64 0]) (by simp [results, Try.results65, go_sem]) rfl ⟨hH06.out, .inr (.inr ⟨hC.out, hNL.out, hNL'.out, gM, ac, lf, t, gN, ac', lf', t', rfl, hM6.out.weak hbs4.out, hOO.out, h64, hCN.out, ?_⟩)⟩
        rw [← hLAB.out]
        exact ⟨hNN.out.weak hbs5.out, hOO'.out, h64', hCN'.out⟩
end Go.Proofs.Ytnimlcbgeiajiaa
