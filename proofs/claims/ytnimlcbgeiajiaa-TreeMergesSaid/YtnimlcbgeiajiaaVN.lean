/-
  Automata of classes: two that merge the same states have the same trees, and as many sets. Plain Lean.
  machine.merged: the walk, and what it returns.
  tree.Merge: the walk, and what it returns.
-/
import Derived.Test.YtnimlcbgeiajiaaVM
import Derived.Test.YtnimlcbgeiajiaaVJ
import Derived.Test.YtnimlcbgeiajiaaVE

namespace Go.Proofs.Ytnimlcbgeiajiaa
open Go.RowKit

/-- What an automaton of the classes of a machine's states has. -/
structure MgLike (a : TA) (L n : Nat) (acc : Nat → Bool) (leaf : Nat → Nat) (br : Nat → Nat → Nat → Nat) (cl : List Nat) : Prop where
  letters : a.letters = (L : Int)
  acc : ∀ q : Int, q ∈ a.accept ↔ ∃ i, i < n ∧ acc i = true ∧ q = (clN cl i : Int)
  leaves : ∀ e : Leaf, e ∈ a.leaves ↔ ∃ x, x < L ∧ e = ⟨(x : Int), (clN cl (leaf x) : Int)⟩
  branches : ∀ e : Branch, e ∈ a.branches ↔ ∃ x i j, x < L ∧ i < n ∧ j < n ∧ e = ⟨(x : Int), (clN cl i : Int), (clN cl j : Int), (clN cl (br x i j) : Int)⟩

section
variable {a b : TA} {L n : Nat} {acc : Nat → Bool} {leaf : Nat → Nat} {br : Nat → Nat → Nat → Nat} {cl cl' : List Nat}
theorem MgLike.leaf_bit (h : MgLike a L n acc leaf br cl) {x q : Nat} : (a.mask (.leaf x)).testBit q = true ↔ x < L ∧ clN cl (leaf x) = q := by
  show (leafM a.leaves x).testBit q = true ↔ _
  have := tb_fold (f := fun e : Leaf => e.to) (c := fun e => decide (e.letter = (x : Int))) q a.leaves 0
  simp only [decide_eq_true_eq] at this
  unfold leafM
  rw [this, Nat.zero_testBit, Bool.false_or, List.any_eq_true]
  constructor
  · rintro ⟨e, he, h2⟩
    obtain ⟨y, hy, rfl⟩ := (h.leaves e).1 he
    simp only [Bool.and_eq_true, decide_eq_true_eq, Int.toNat_natCast] at h2
    obtain ⟨h3, h4⟩ := h2
    have : y = x := by omega
    subst this
    exact ⟨hy, h4⟩
  · rintro ⟨hx, rfl⟩
    exact ⟨_, (h.leaves _).2 ⟨x, hx, rfl⟩, by simp⟩
theorem MgLike.node_bit (h : MgLike a L n acc leaf br cl) {x q : Nat} {s t : Tr} : (a.mask (.node x s t)).testBit q = true ↔ x < L ∧ ∃ i j, i < n ∧ j < n ∧ (a.mask s).testBit (clN cl i) = true ∧ (a.mask t).testBit (clN cl j) = true ∧ clN cl (br x i j) = q := by
  show (brM (a.mask s) (a.mask t) (byL a.branches x)).testBit q = true ↔ _
  have := tb_fold (f := fun e : Branch => e.to) (c := fun e => mBit (a.mask s) e.first && mBit (a.mask t) e.second) q (byL a.branches x) 0
  unfold brM
  rw [this, Nat.zero_testBit, Bool.false_or, List.any_eq_true]
  constructor
  · rintro ⟨e, he, h2⟩
    unfold byL at he
    obtain ⟨he, hx⟩ := List.mem_filter.1 he
    obtain ⟨y, i, j, hy, hi, hj, rfl⟩ := (h.branches e).1 he
    simp only [Bool.and_eq_true, decide_eq_true_eq, mBit, Int.toNat_natCast] at h2 hx
    obtain ⟨⟨h3, h4⟩, h5⟩ := h2
    have : y = x := by omega
    subst this
    exact ⟨hy, i, j, hi, hj, h3, h4, h5⟩
  · rintro ⟨hx, i, j, hi, hj, h3, h4, rfl⟩
    refine ⟨(⟨(x : Int), (clN cl i : Int), (clN cl j : Int), (clN cl (br x i j) : Int)⟩ : Branch), ?_, ?_⟩
    · unfold byL
      exact List.mem_filter.2 ⟨(h.branches _).2 ⟨x, i, j, hx, hi, hj, rfl⟩, by simp⟩
    · simp [mBit, h3, h4]
/-- Only classes are marked. -/
theorem MgLike.bit_cl (h : MgLike a L n acc leaf br cl) (hM : IsM L n leaf br) {t : Tr} {q : Nat} (hq : (a.mask t).testBit q = true) : ∃ i, i < n ∧ clN cl i = q := by
  cases t with
  | leaf x =>
    obtain ⟨hx, rfl⟩ := h.leaf_bit.1 hq
    exact ⟨_, hM.leaf_lt x hx, rfl⟩
  | node x s t =>
    obtain ⟨hx, i, j, hi, hj, -, -, rfl⟩ := h.node_bit.1 hq
    exact ⟨_, hM.br_lt x i j hx hi hj, rfl⟩
theorem MgLike.same_bit (h : MgLike a L n acc leaf br cl) (h' : MgLike b L n acc leaf br cl') (hM : IsM L n leaf br) (hc : ∀ i j, i < n → j < n → (clN cl i = clN cl j ↔ clN cl' i = clN cl' j)) : ∀ (t : Tr) (i : Nat), i < n → ((a.mask t).testBit (clN cl i) = true ↔ (b.mask t).testBit (clN cl' i) = true)
  | .leaf x, i, hi => by
    rw [h.leaf_bit, h'.leaf_bit]
    exact and_congr_right fun hx => hc _ _ (hM.leaf_lt x hx) hi
  | .node x s t, i, hi => by
    rw [h.node_bit, h'.node_bit]
    refine and_congr_right fun hx => exists_congr fun p => exists_congr fun q => and_congr_right fun hp => and_congr_right fun hq => ?_
    rw [MgLike.same_bit h h' hM hc s p hp, MgLike.same_bit h h' hM hc t q hq, hc _ _ (hM.br_lt x p q hx hp hq) hi]
theorem MgLike.same_mask (h : MgLike a L n acc leaf br cl) (h' : MgLike b L n acc leaf br cl') (hM : IsM L n leaf br) (hc : ∀ i j, i < n → j < n → (clN cl i = clN cl j ↔ clN cl' i = clN cl' j)) (t u : Tr) (he : a.mask t = a.mask u) : b.mask t = b.mask u := by
  have key : ∀ t u : Tr, a.mask t = a.mask u → ∀ q, (b.mask t).testBit q = true → (b.mask u).testBit q = true := fun t u he q hq => by
    obtain ⟨i, hi, rfl⟩ := h'.bit_cl hM hq
    rw [← MgLike.same_bit h h' hM hc u i hi, ← he, MgLike.same_bit h h' hM hc t i hi]
    exact hq
  apply Nat.eq_of_testBit_eq
  intro q
  rw [Bool.eq_iff_iff]
  exact ⟨key t u he q, key u t he.symm q⟩
theorem MgLike.lang_iff (h : MgLike a L n acc leaf br cl) (t : Tr) : a.lang t = true ↔ ∃ i, i < n ∧ acc i = true ∧ (a.mask t).testBit (clN cl i) = true := by
  show a.accS (a.mask t) = true ↔ _
  rw [accS_any _ _ (fun q hq => by
    obtain ⟨i, -, -, rfl⟩ := (h.acc q).1 hq
    omega), List.any_eq_true]
  constructor
  · rintro ⟨q, hq, h2⟩
    obtain ⟨i, hi, ha, rfl⟩ := (h.acc q).1 hq
    simp only [mBit, Int.toNat_natCast] at h2
    exact ⟨i, hi, ha, h2⟩
  · rintro ⟨i, hi, ha, h2⟩
    exact ⟨_, (h.acc _).2 ⟨i, hi, ha, rfl⟩, by simpa [mBit] using h2⟩
theorem MgLike.same_lang (h : MgLike a L n acc leaf br cl) (h' : MgLike b L n acc leaf br cl') (hM : IsM L n leaf br) (hc : ∀ i j, i < n → j < n → (clN cl i = clN cl j ↔ clN cl' i = clN cl' j)) (t : Tr) : a.lang t = b.lang t := by
  rw [Bool.eq_iff_iff, h.lang_iff, h'.lang_iff]
  refine exists_congr fun i => and_congr_right fun hi => and_congr_right fun _ => ?_
  exact MgLike.same_bit h h' hM hc t i hi
theorem MgLike.large (h : MgLike a L n acc leaf br cl) (h' : MgLike b L n acc leaf br cl') (hM : IsM L n leaf br) (hc : ∀ i j, i < n → j < n → (clN cl i = clN cl j ↔ clN cl' i = clN cl' j)) (hl : a.Large) : b.Large := by
  obtain ⟨l, h1, h2, h3⟩ := hl
  obtain ⟨ts, h4, h5⟩ := trees_of l h2
  have h6 : (ts.map b.mask).Nodup := nodup_other (f := a.mask) (by rw [show ts.map a.mask = l from h5]; exact h1) (fun t u e => MgLike.same_mask h' h hM (fun i j hi hj => (hc i j hi hj).symm) t u e)
  refine ⟨ts.map b.mask, h6, fun s hs => ?_, ?_⟩
  · obtain ⟨t, ht, rfl⟩ := List.mem_map.1 hs
    refine reach_run.2 ⟨t, ?_, rfl⟩
    have := h4 t ht
    rw [h.letters] at this
    rw [h'.letters]
    exact this
  · have h8 : ts.length = l.length := by rw [← h5, List.length_map]
    rw [List.length_map, h8]
    exact h3
end

/-- The program's. -/
theorem merged_like {L : Nat} {ac : List Bool} {lf cl : List Nat} {t : List (List (List Nat))} (h : MOK L ac lf t) : MgLike (mergedA L ac lf cl t) L ac.length (macc ac) (mleaf lf) (mbr t) cl where
  letters := rfl
  acc q := by
    show q ∈ (mgAcc ac cl ac.length).map _ ↔ _
    rw [List.mem_map]
    constructor
    · rintro ⟨v, hv, rfl⟩
      obtain ⟨i, hi, ha, rfl⟩ := mem_mgAcc.1 hv
      exact ⟨i, hi, ha, rfl⟩
    · rintro ⟨i, hi, ha, rfl⟩
      exact ⟨_, mem_mgAcc.2 ⟨i, hi, ha, rfl⟩, rfl⟩
  leaves e := by
    show e ∈ mgLv lf cl lf.length ↔ _
    rw [mem_mgLv, h.lfl]
  branches e := mem_mgI

/-- The document's: the classes in the place of the states of a canonical automaton. -/
def renA (a : TA) (cl : List Nat) : TA :=
  { letters := a.letters, states := a.states + 1, accept := a.accept.map fun q => (clN cl q.toNat : Int),
    leaves := a.leaves.map fun e => ⟨e.letter, (clN cl e.to.toNat : Int)⟩,
    branches := a.branches.map fun e => ⟨e.letter, (clN cl e.first.toNat : Int), (clN cl e.second.toNat : Int), (clN cl e.to.toNat : Int)⟩ }
theorem ren_like {L : Nat} {ac : List Bool} {lf cl : List Nat} {t : List (List (List Nat))} (h : MOK L ac lf t) : MgLike (renA (plainA L ac lf t) cl) L ac.length (macc ac) (mleaf lf) (mbr t) cl where
  letters := rfl
  acc q := by
    show q ∈ ((accIdx ac).map fun (i : Nat) => (i : Int)).map _ ↔ _
    rw [List.map_map, List.mem_map]
    constructor
    · rintro ⟨i, hi, rfl⟩
      obtain ⟨h1, h2⟩ := mem_accIdx.1 hi
      exact ⟨i, h1, h2, rfl⟩
    · rintro ⟨i, hi, ha, rfl⟩
      exact ⟨i, mem_accIdx.2 ⟨hi, ha⟩, rfl⟩
  leaves e := by
    show e ∈ (plLv lf).map _ ↔ _
    rw [List.mem_map]
    constructor
    · rintro ⟨d, hd, rfl⟩
      obtain ⟨x, hx, rfl⟩ := mem_plLv.1 hd
      exact ⟨x, by rw [← h.lfl]; exact hx, rfl⟩
    · rintro ⟨x, hx, rfl⟩
      exact ⟨_, mem_plLv.2 ⟨x, by rw [h.lfl]; exact hx, rfl⟩, rfl⟩
  branches e := by
    show e ∈ (plBr L ac.length t).map _ ↔ _
    rw [List.mem_map]
    constructor
    · rintro ⟨d, hd, rfl⟩
      obtain ⟨x, i, j, hx, hi, hj, rfl⟩ := mem_plBr.1 hd
      exact ⟨x, i, j, hx, hi, hj, rfl⟩
    · rintro ⟨x, i, j, hx, hi, hj, rfl⟩
      exact ⟨_, mem_plBr.2 ⟨x, i, j, hx, hi, hj, rfl⟩, rfl⟩
theorem ren_fit5 {L : Nat} {ac : List Bool} {lf cl : List Nat} {t : List (List (List Nat))} (h : MOK L ac lf t) (h1 : 1 ≤ L) (h8 : L ≤ 8) (hn : ac.length ≤ 64) (hc : ∀ i, i < ac.length → clN cl i ≤ ac.length) : (renA (plainA L ac lf t) cl).fit5 = true := by
  have hL := ren_like (cl := cl) h
  simp only [TA.fit5, TA.head5, Bool.and_eq_true]
  refine ⟨⟨⟨⟨⟨⟨?_, ?_⟩, ?_⟩, ?_⟩, ?_⟩, ?_⟩, ?_⟩
  · exact decide_eq_true (by show 1 ≤ (L : Int); omega)
  · exact decide_eq_true (by show (L : Int) ≤ 8; omega)
  · exact decide_eq_true (by show 0 ≤ (ac.length : Int) + 1; omega)
  · exact decide_eq_true (by show (ac.length : Int) + 1 ≤ 65; omega)
  · rw [List.all_eq_true]
    intro q hq
    obtain ⟨i, hi, -, rfl⟩ := (hL.acc q).1 hq
    have := hc i hi
    show inR _ 0 ((ac.length : Int) + 1) = true
    simp [inR]; omega
  · rw [List.all_eq_true]
    intro e he
    obtain ⟨x, hx, rfl⟩ := (hL.leaves e).1 he
    have := hc _ (h.isM.leaf_lt x hx)
    show okLeaf (L : Int) ((ac.length : Int) + 1) _ = true
    simp [okLeaf, inR]; omega
  · rw [List.all_eq_true]
    intro e he
    obtain ⟨x, i, j, hx, hi, hj, rfl⟩ := (hL.branches e).1 he
    have := hc _ (h.isM.br_lt x i j hx hi hj)
    have := hc i hi
    have := hc j hj
    show okBranch (L : Int) ((ac.length : Int) + 1) _ = true
    simp [okBranch, inR]; omega

/-- The error and the automaton of Merge. -/
def MgRel (a : TA) (d : Int) (e : Int) (b : TA) : Prop :=
  ((a.valid = false ∨ ¬ (0 ≤ d ∧ d ≤ 8)) ∧ e = 1 ∧ b = zTA) ∨ (a.valid = true ∧ 0 ≤ d ∧ d ≤ 8 ∧ a.Large ∧ e = 4 ∧ b = zTA) ∨
  (a.valid = true ∧ 0 ≤ d ∧ d ≤ 8 ∧ ¬ a.Large ∧ ∃ ac lf t cl c, MOK a.letters.toNat ac lf t ∧ ac.length ≤ 64 ∧ Canon a.letters.toNat ac.length (mleaf lf) (mbr t) (macc ac) a.lang ∧
    (∀ i j, i < ac.length → j < ac.length → (clN cl i = clN cl j ↔ EqD a.letters.toNat ac.length (mbr t) (macc ac) d i j)) ∧
    MgLike c a.letters.toNat ac.length (macc ac) (mleaf lf) (mbr t) cl ∧
    ((c.Large ∧ e = 4 ∧ b = zTA) ∨ (¬ c.Large ∧ e = 0 ∧ ∃ ac' lf' t', MOK a.letters.toNat ac' lf' t' ∧ ac'.length ≤ 64 ∧ Canon a.letters.toNat ac'.length (mleaf lf') (mbr t') (macc ac') c.lang ∧ b = plainA a.letters.toNat ac' lf' t')))
theorem MgLike.other {c : TA} {L n : Nat} {acc acc' : Nat → Bool} {leaf leaf' : Nat → Nat} {br br' : Nat → Nat → Nat → Nat} {cl : List Nat} (h : MgLike c L n acc leaf br cl) (h1 : ∀ x, x < L → leaf x = leaf' x) (h2 : ∀ x p q, x < L → p < n → q < n → br x p q = br' x p q) (h3 : ∀ q, q < n → acc q = acc' q) : MgLike c L n acc' leaf' br' cl where
  letters := h.letters
  acc q := by
    rw [h.acc]
    exact exists_congr fun i => and_congr_right fun hi => by rw [h3 i hi]
  leaves e := by
    rw [h.leaves]
    exact exists_congr fun x => and_congr_right fun hx => by rw [h1 x hx]
  branches e := by
    rw [h.branches]
    exact exists_congr fun x => exists_congr fun i => exists_congr fun j => and_congr_right fun hx => and_congr_right fun hi => and_congr_right fun hj => by rw [h2 x i j hx hi hj]
theorem EqS.other {L n : Nat} {acc acc' : Nat → Bool} {br br' : Nat → Nat → Nat → Nat} (hb : ∀ x p q, x < L → p < n → q < n → br x p q < n) (h2 : ∀ x p q, x < L → p < n → q < n → br x p q = br' x p q) (h3 : ∀ q, q < n → acc q = acc' q) : ∀ r p q, p < n → q < n → (EqS L n br acc r p q ↔ EqS L n br' acc' r p q)
  | 0, p, q, hp, hq => by
    show acc p = acc q ↔ acc' p = acc' q
    rw [h3 p hp, h3 q hq]
  | r + 1, p, q, hp, hq => by
    refine and_congr (EqS.other hb h2 h3 r p q hp hq) (forall_congr' fun x => forall_congr' fun hx => forall_congr' fun k => forall_congr' fun hk => ?_)
    rw [← h2 x p k hx hp hk, ← h2 x q k hx hq hk, ← h2 x k p hx hk hp, ← h2 x k q hx hk hq]
    exact and_congr (EqS.other hb h2 h3 r _ _ (hb x p k hx hp hk) (hb x q k hx hq hk)) (EqS.other hb h2 h3 r _ _ (hb x k p hx hk hp) (hb x k q hx hk hq))
theorem MgRel.unique {a b b' : TA} {d e e' : Int} (h : MgRel a d e b) (h' : MgRel a d e' b') : e = e' ∧ b = b' := by
  rcases h with ⟨h1, rfl, rfl⟩ | ⟨h1, hd1, hd2, h2, rfl, rfl⟩ | ⟨h1, hd1, hd2, h2, ac, lf, t, cl, c, h3, h4, h5, h6, h7, h8⟩ <;>
  rcases h' with ⟨g1, rfl, rfl⟩ | ⟨g1, gd1, gd2, g2, rfl, rfl⟩ | ⟨g1, gd1, gd2, g2, ac', lf', t', cl', c', g3, g4, g5, g6, g7, g8⟩ <;>
  first
  | exact ⟨rfl, rfl⟩
  | (rcases h1 with h1 | h1
     · exact absurd (h1.symm.trans g1) (by decide)
     · exact absurd ⟨gd1, gd2⟩ h1)
  | (rcases g1 with g1 | g1
     · exact absurd (g1.symm.trans h1) (by decide)
     · exact absurd ⟨hd1, hd2⟩ g1)
  | exact (h2 g2).elim
  | exact (g2 h2).elim
  | skip
  obtain ⟨hn, e1, e2, e3⟩ := Canon.unique h5 g5 (fun _ _ => rfl)
  rw [← hn] at g6 g7
  have g7' := g7.other (fun x hx => (e1 x hx).symm) (fun x p q hx hp hq => (e2 x p q hx hp hq).symm) (fun q hq => (e3 q hq).symm)
  have hEq : ∀ i j, i < ac.length → j < ac.length → (clN cl i = clN cl j ↔ clN cl' i = clN cl' j) := fun i j hi hj => by
    rw [h6 i j hi hj, g6 i j hi hj]
    unfold EqD
    rw [if_neg (by omega), if_neg (by omega)]
    exact EqS.other h5.isM.br_lt e2 e3 _ i j hi hj
  have hL := h7.large g7' h5.isM hEq
  have hL' := g7'.large h7 h5.isM fun i j hi hj => (hEq i j hi hj).symm
  rcases h8 with ⟨k1, rfl, rfl⟩ | ⟨k1, rfl, ac1, lf1, t1, k2, k3, k4, rfl⟩ <;>
  rcases g8 with ⟨l1, rfl, rfl⟩ | ⟨l1, rfl, ac2, lf2, t2, l2, l3, l4, rfl⟩ <;>
  first
  | exact ⟨rfl, rfl⟩
  | exact (l1 (hL k1)).elim
  | exact (k1 (hL' l1)).elim
  | exact ⟨rfl, (plain_same k2 l2 k4 l4 (fun tr _ => h7.same_lang g7' h5.isM hEq tr)).symm⟩
/-- What Merge returns. -/
def MgRes (w' : World) (base : Nat) (a : TA) (d : Int) (v : Value) : Prop := ∃ e b vm, v = .tuple #[vm, .int .i64 e] ∧ MgRel a d e b ∧ TAown w' base vm b
end Go.Proofs.Ytnimlcbgeiajiaa

namespace Go.Proofs.Ytnimlcbgeiajiaa
open Go.RowKit

/-- What merged returns. -/
def MergedRes (w' : World) (base L : Nat) (d : Int) (ac : List Bool) (lf : List Nat) (t : List (List (List Nat))) (v : Value) : Prop :=
  ∃ cl c, ClsD L ac.length (mbr t) (macc ac) d cl ∧ MgLike c L ac.length (macc ac) (mleaf lf) (mbr t) cl ∧
    ((v = .pointer none ∧ c.Large) ∨ ∃ (gM' : Nat) (ac' : List Bool) (lf' : List Nat) (t' : List (List (List Nat))), v = .pointer (some ⟨gM', 0, none⟩) ∧ base ≤ gM' ∧ Mach w' base gM' L ac' lf' t' ∧ MOK L ac' lf' t' ∧ ac'.length ≤ 64 ∧
      ¬ c.Large ∧ Canon L ac'.length (mleaf lf') (mbr t') (macc ac') c.lang)

set_option maxHeartbeats 8000000 in
set_option maxRecDepth 100000 in
theorem mergedW_any {w : World} {base gM L : Nat} {d : Int} {vacc vleaf vbr : Value} {ac : List Bool} {lf : List Nat} {t : List (List (List Nat))} (hM : MachA w base gM L vacc vleaf vbr ac lf t) (hok : MOK L ac lf t) (h1 : 1 ≤ L) (hL : L ≤ 8) (hn : ac.length ≤ 64) (h0 : 0 < ac.length) :
    Calls Try.prog 51 #[.pointer (some ⟨gM, 0, none⟩), .int .i64 d, .int .i64 64] w (Ret fun v w' => Below w.heap.size w w' ∧ MergedRes w' w.heap.size L d ac lf t v) := by
  have hOK := hide hok
  clear hok
  go_enter Try.func51, Try.ntmps51
  go_wp2_with fail
  refine Calls.ret (classes_any hM hOK.out hL (by omega) h0) ?_
  rintro v w1 ⟨hb1, go, cl, rfl, hrow, hcls⟩
  have hCL := hide hcls
  clear hcls
  have hsz1 := hb1.size
  have hM1 := hM.keep (Kept.of_below hb1 (fun _ => False)) (fun _ _ _ h => h.elim)
  obtain ⟨wb, hwb, hbb, hg3, hkb⟩ := box_blk w1 #[.int .i64 L, .int .i64 0, .slice none 0 0, .slice none 0 0, .slice none 0 0] 26
  have hMb := hM1.keep hkb (fun _ _ _ h => h.elim)
  have hrb := own_ty hkb hrow (fun _ _ h => h.elim)
  have hcm1 := hM1.blk.cell
  obtain ⟨A, c, rfl⟩ := slice_of_own hMb.acc
  have hgM1 := hM1.blk.lt
  have hclen : cl.length = ac.length := by simpa using hrow.1
  have hP0 : PlS wb wb w1.heap.size L 0 (.slice none 0 0) (.slice none 0 0) (.slice none 0 0) [] [] [] := ⟨Kept.refl _ _, hg3, own_nil, own_nil, own_nil⟩
  have hszb := hbb.size
  have hcs : ∀ i, clN cl i ≤ 200 := fun i => by
    by_cases hi : i < ac.length
    · have := hCL.out.lt i hi
      unfold clN
      omega
    · unfold clN
      rw [List.getD_eq_getElem?_getD, List.getElem?_eq_none (by omega)]
      simp
  have hCS := hide hcs
  have hWB := hide hwb
  clear hwb
  have hLN := hide hclen
  clear hcs hclen
  go_wp2_with fail
  rw [hWB.out]
  refine mg_accept hMb (by omega) hrb hCS.out hP0 hg3 ?_ ?_
  · repeat (first | exact Reg.NoQ.body (fun _ _ h => h) (fun _ h => h) | refine Reg.NoQ.then ?_ | refine Reg.NoQ.inBlock ?_)
  iterate 27 (intro _)
  intro w3 v3 hP3
  have hkeep : ∀ (w' : World) (n' : Nat) (a1 a2 a3 : Value) (al : List Nat) (lv : List Leaf) (br : List Branch), PlS wb w' w1.heap.size L n' a1 a2 a3 al lv br → MachA w' base gM L (.slice A ac.length c) vleaf vbr ac lf t   := fun _ _ _ _ _ _ _ _ h => hMb.keep h.kept (fun k t cs hx hb => by
    subst hx
    have := blk_ty hg3 hb
    subst this
    decide)
  have hKP := hide hkeep
  have hM3 := hkeep _ _ _ _ _ _ _ _ hP3
  clear hkeep
  obtain ⟨A2, c2, hA2⟩ := slice_of_own hM3.lfs
  subst hA2
  have hcm3 := hM3.blk.cell
  clear hcm1 hgM1
  go_wp2_with fail
  refine mg_leaves hMb hOK.out hL hrb hLN.out hP3 hg3 ?_ ?_
  · repeat (first | exact Reg.NoQ.body (fun _ _ h => h) (fun _ h => h) | refine Reg.NoQ.then ?_ | refine Reg.NoQ.inBlock ?_)
  iterate 19 (intro _)
  intro w4 v4 hP4
  have hM4 := hKP.out _ _ _ _ _ _ _ _ hP4
  have hcm4 := hM4.blk.cell
  clear hcm3
  go_wp2_with fail
  refine mg_i hMb hOK.out hL hrb hLN.out (by omega) hP4 hg3 ?_ ?_
  · repeat (first | exact Reg.NoQ.body (fun _ _ h => h) (fun _ h => h) | refine Reg.NoQ.then ?_ | refine Reg.NoQ.inBlock ?_)
  iterate 55 (intro _)
  intro w5 v5 hP5
  have hTA := hide (merged_ta hP5)
  have hval := hide (merged_valid hOK.out h1 hL hn (fun i hi => hCL.out.lt i hi) (cl := cl))
  obtain ⟨A3, c3, rfl⟩ := slice_of_own hP5.acc
  obtain ⟨A4, c4, rfl⟩ := slice_of_own hP5.lvs
  obtain ⟨A5, c5, rfl⟩ := slice_of_own hP5.brs
  have hc5 := hP5.blk.cell
  have hbg : (mergedA L ac lf cl t).branches.length ≤ 900000 := by
    have h1 := mgI_len L ac.length t cl ac.length
    have h3 : ac.length * L ≤ 64 * 8 := Nat.mul_le_mul hn hL
    have h2 : ac.length * (ac.length * L) ≤ 64 * (64 * 8) := Nat.mul_le_mul hn h3
    show (mgI L ac.length t cl ac.length).length ≤ _
    omega
  have hBG := hide hbg
  have hLK := hide (merged_like (cl := cl) hOK.out)
  have hbel : Below w.heap.size w w5 := hb1.trans ((hbb.trans (hP5.kept.below hszb (fun b hb (e : b = w1.heap.size) => by omega))).mono hsz1)
  have hsz5 := hbel.size
  clear hcm4 hbg
  go_wp2_with fail
  have hLL : (mergedA L ac lf cl t).letters.toNat = L := Int.toNat_natCast _
  have hD := determine_any _ (mergedA L ac lf cl t) w5 hTA.out hval.out hBG.out
  rw [hLL] at hD
  refine Calls.ret hD ?_
  clear hD
  rintro v w6 ⟨hb6, l, hn6, hR, hres⟩
  have hRR := hide hR
  have hNN := hide hn6
  clear hR hn6
  rcases hres with ⟨rfl, hl⟩ | ⟨gM', lf', t', rfl, hgM', hM', hlf, hLf, hT, htl, hl64⟩
  · go_wp2_with fail
    go_ret
    exact ⟨hbel.trans (hb6.mono hsz5), cl, _, hCL.out, hLK.out, .inl ⟨rfl, l, hNN.out, hRR.out, hl⟩⟩
  · obtain ⟨hok', hrun', hacc'⟩ := built_ok (acc := (mergedA L ac lf cl t).accS) hNN.out hRR.out hlf hLf hT htl
    have hOO := hide hok'
    have hAA := hide hacc'
    have hrr := hide hrun'
    obtain ⟨vacc', vleaf', vbr', hMA⟩ := hM'
    have hMM := hide hMA
    have hlen : (l.map (mergedA L ac lf cl t).accS).length ≤ 64 := by simpa using hl64
    have hpos2 := hOO.out.pos h1
    have hsz6 := hb6.size
    clear hok' hacc' hlf hLf hT htl hMA hrun'
    go_wp2_with fail
    refine Calls.ret (minimal_any hMM.out hOO.out h1 hL (by omega) hpos2) ?_
    rintro v w7 ⟨hb7, gM2, ac2, lf2, t2, rfl, hgM2, hM2, hok2, hle2, hcan2⟩
    have hM22 := hide hM2
    have hok22 := hide hok2
    have hcan22 := hide hcan2
    clear hM2 hok2 hcan2
    go_wp2_with fail
    go_ret
    refine ⟨(hbel.trans (hb6.mono hsz5)).trans (hb7.mono (by omega)), cl, _, hCL.out, hLK.out, .inr ⟨gM2, ac2, lf2, t2, rfl, by omega, hM22.out.weak (by omega), hok22.out, by omega, ?_, ?_⟩⟩
    · rintro ⟨l', h1, h2, h3⟩
      have : l'.length ≤ l.length := sub_len l' l h1 fun s hs => by
        obtain ⟨tr, htr, rfl⟩ := reach_run.1 (h2 s hs)
        exact List.mem_of_getElem? (hrr.out tr (by rw [hLL] at htr; exact htr))
      omega
    · exact hcan22.out.congr fun tr htr => hAA.out tr htr
end Go.Proofs.Ytnimlcbgeiajiaa

namespace Go.Proofs.Ytnimlcbgeiajiaa
open Go.RowKit

set_option maxHeartbeats 4000000 in
set_option maxRecDepth 100000 in
theorem mergeG_any (v : Value) (a : TA) (d : Int) (w : World) (h : IsTA w w.heap.size v a) (hbig : a.branches.length ≤ 900000) :
    Calls Try.prog 25 #[v, .int .i64 d] w (Ret fun v w' => Below w.heap.size w w' ∧ MgRes w' w.heap.size a d v) := by
  obtain ⟨A1, c1, A2, c2, A3, c3, rfl, h1, h2, h3⟩ := h
  obtain ⟨w1, hw1, hb1, hB1, hk1⟩ := box_blk w #[.int .i64 a.letters, .int .i64 a.states, .slice A1 a.accept.length c1, .slice A2 a.leaves.length c2, .slice A3 a.branches.length c3] 26
  obtain ⟨w2, hw2, hb2, hB2, hk2⟩ := box_blk w1 #[.int .i64 0, .int .i64 0, .slice none 0 0, .slice none 0 0, .slice none 0 0] 26
  have hsz1 := hb1.size
  have hsz2 := hb2.size
  have hB12 := hB1.kept hk2 id
  have hcb := hB12.cell
  have hb02 : Below w.heap.size w w2 := hb1.trans (hb2.mono hsz1)
  have hT : IsTA w2 w2.heap.size (.agg #[.int .i64 a.letters, .int .i64 a.states, .slice A1 a.accept.length c1, .slice A2 a.leaves.length c2, .slice A3 a.branches.length c3]) a :=
    IsTA.keep ⟨A1, c1, A2, c2, A3, c3, rfl, h1, h2, h3⟩ (fun _ hp => hb02.cell hp) (by omega)
  have hTT := hide hT
  clear hT h1 h2 h3
  go_enter Try.func25, Try.ntmps25
  go_wp2_with fail
  refine (validate_any _ a w2 hTT.out).mono ?_
  rintro e w3 ⟨rfl, hb3⟩
  have hB13 := hB12.below hb3
  have hB23 := hB2.below hb3
  have hcb3 := hB13.cell
  have hc23 := hB23.cell
  have hf23 := hB23.frozen
  have hsz3 := hb3.size
  have hlt3 := hB23.lt
  have hb03 : Below w.heap.size w w3 := hb02.trans (hb3.mono (by omega))
  cases hv : a.valid with
  | false =>
    have hvv := hide hv
    clear hv
    have he : errno false = 1 := rfl
    rw [he]
    go_wp2_with fail
    obtain ⟨wF, hwF, hgF, hkF⟩ := set5_facts hB23 (.int .i64 0) (.int .i64 0) (.slice none 0 0) (.slice none 0 0) (.slice none 0 0)
    change bodyPost _ _ _ _ _ (set5 w3 w1.heap.size (.int .i64 0) (.int .i64 0) (.slice none 0 0) (.slice none 0 0) (.slice none 0 0))
    rw [hwF]
    have hcF := hgF.cell
    exact bodyPost_ret (v := .tuple #[zeroTA, .int .i64 1]) (by simp [results, Try.results25, go_sem, hcF, zeroTA]) rfl ⟨hb03.trans (hkF.below (by omega) (fun b hb e => by omega)), 1, zTA, zeroTA, rfl, .inl ⟨.inl hvv.out, rfl, rfl⟩, TAown.zero _ _⟩
  | true =>
    have hvv := hide hv
    have hbg := hide hbig
    clear hv hbig
    have he : errno true = 0 := rfl
    rw [he]
    have hT3 : IsTA w3 w3.heap.size (.agg #[.int .i64 a.letters, .int .i64 a.states, .slice A1 a.accept.length c1, .slice A2 a.leaves.length c2, .slice A3 a.branches.length c3]) a := hTT.out.keep (fun _ hp => hb3.cell hp) hsz3
    have hT33 := hide hT3
    clear hT3 he
    by_cases hd0 : d < 0
    · go_wp2_with fail
      obtain ⟨wF, hwF, hgF, hkF⟩ := set5_facts hB23 (.int .i64 0) (.int .i64 0) (.slice none 0 0) (.slice none 0 0) (.slice none 0 0)
      change bodyPost _ _ _ _ _ (set5 w3 w1.heap.size (.int .i64 0) (.int .i64 0) (.slice none 0 0) (.slice none 0 0) (.slice none 0 0))
      rw [hwF]
      have hcF := hgF.cell
      exact bodyPost_ret (v := .tuple #[zeroTA, .int .i64 1]) (by simp [results, Try.results25, go_sem, hcF, zeroTA]) rfl ⟨hb03.trans (hkF.below (by omega) (fun b hb e => by omega)), 1, zTA, zeroTA, rfl, .inl ⟨.inr (by omega), rfl, rfl⟩, TAown.zero _ _⟩
    by_cases hd8 : 8 < d
    · go_wp2_with fail
      obtain ⟨wF, hwF, hgF, hkF⟩ := set5_facts hB23 (.int .i64 0) (.int .i64 0) (.slice none 0 0) (.slice none 0 0) (.slice none 0 0)
      change bodyPost _ _ _ _ _ (set5 w3 w1.heap.size (.int .i64 0) (.int .i64 0) (.slice none 0 0) (.slice none 0 0) (.slice none 0 0))
      rw [hwF]
      have hcF := hgF.cell
      exact bodyPost_ret (v := .tuple #[zeroTA, .int .i64 1]) (by simp [results, Try.results25, go_sem, hcF, zeroTA]) rfl ⟨hb03.trans (hkF.below (by omega) (fun b hb e => by omega)), 1, zTA, zeroTA, rfl, .inl ⟨.inr (by omega), rfl, rfl⟩, TAown.zero _ _⟩
    go_wp2_with fail
    refine Calls.ret (treeMin_any _ a w3 hT33.out hvv.out hbg.out) ?_
    rintro v w4 ⟨hb4, hres⟩
    have hB24 := hB23.below hb4
    have hc24 := hB24.cell
    have hf24 := hB24.frozen
    have hsz4 := hb4.size
    have hlt4 := hB24.lt
    have hb04 : Below w.heap.size w w4 := hb03.trans (hb4.mono (by omega))
    rcases hres with ⟨rfl, hlg⟩ | ⟨gM, ac, lf, t, rfl, hgM, hM, hok, hle, hnl, hcan⟩
    · have hL := hide hlg
      clear hlg
      go_wp2_with fail
      obtain ⟨wF, hwF, hgF, hkF⟩ := set5_facts hB24 (.int .i64 0) (.int .i64 0) (.slice none 0 0) (.slice none 0 0) (.slice none 0 0)
      change bodyPost _ _ _ _ _ (set5 w4 w1.heap.size (.int .i64 0) (.int .i64 0) (.slice none 0 0) (.slice none 0 0) (.slice none 0 0))
      rw [hwF]
      have hcF := hgF.cell
      exact bodyPost_ret (v := .tuple #[zeroTA, .int .i64 4]) (by simp [results, Try.results25, go_sem, hcF, zeroTA]) rfl ⟨hb04.trans (hkF.below (by omega) (fun b hb e => by omega)), 4, zTA, zeroTA, rfl, .inr (.inl ⟨hvv.out, by omega, by omega, hL.out, rfl, rfl⟩), TAown.zero _ _⟩
    · obtain ⟨u1, u2, u3, hMA⟩ := hM
      have hMM := hide hMA
      have hOO := hide hok
      have hNL := hide hnl
      have hCC := hide hcan
      have hv2 := hvv.out
      have hL18 : 1 ≤ a.letters.toNat ∧ a.letters.toNat ≤ 8 := by
        simp only [TA.valid, TA.head, Bool.and_eq_true, decide_eq_true_eq] at hv2
        omega
      obtain ⟨hL1, hL8⟩ := hL18
      clear hMA hok hnl hcan hv2
      go_wp2_with fail
      have hp0 := hOO.out.pos hL1
      refine Calls.ret (mergedW_any hMM.out hOO.out hL1 hL8 hle hp0) ?_
      rintro v w4' ⟨hb4', hmres⟩
      have hB24' := hB24.below hb4'
      have hc24' := hB24'.cell
      have hf24' := hB24'.frozen
      have hsz4' := hb4'.size
      have hlt4' := hB24'.lt
      have hb04' : Below w.heap.size w w4' := hb04.trans (hb4'.mono (by omega))
      clear hc24 hf24 hc23 hf23 hcb3 hcb hp0
      obtain ⟨cl, c, hcls, hlk, hmres⟩ := hmres
      have hCLS := hide hcls
      have hLIK := hide hlk
      clear hcls hlk
      have hcut := hide (show ∀ i j, i < ac.length → j < ac.length → (clN cl i = clN cl j ↔ EqD a.letters.toNat ac.length (mbr t) (macc ac) d i j) from fun i j hi hj => hCLS.out.iff i j hi hj)
      rcases hmres with ⟨rfl, hlgc⟩ | ⟨gM2, ac2, lf2, t2, rfl, hgM2, hM2, hok2, hle2, hnl2, hlang2⟩
      · have hLGC := hide hlgc
        clear hlgc
        go_wp2_with fail
        obtain ⟨wF, hwF, hgF, hkF⟩ := set5_facts hB24' (.int .i64 0) (.int .i64 0) (.slice none 0 0) (.slice none 0 0) (.slice none 0 0)
        change bodyPost _ _ _ _ _ (set5 w4' w1.heap.size (.int .i64 0) (.int .i64 0) (.slice none 0 0) (.slice none 0 0) (.slice none 0 0))
        rw [hwF]
        have hcF := hgF.cell
        exact bodyPost_ret (v := .tuple #[zeroTA, .int .i64 4]) (by simp [results, Try.results25, go_sem, hcF, zeroTA]) rfl ⟨hb04'.trans (hkF.below (by omega) (fun b hb e => by omega)), 4, zTA, zeroTA, rfl, .inr (.inr ⟨hvv.out, by omega, by omega, hNL.out, ac, lf, t, cl, c, hOO.out, hle, hCC.out, hcut.out, hLIK.out, .inl ⟨hLGC.out, rfl, rfl⟩⟩), TAown.zero _ _⟩
      obtain ⟨y1, y2, y3, hMA2⟩ := hM2
      have hMM2 := hide hMA2
      have hOO2 := hide hok2
      have hLG2 := hide hlang2
      have hNL2 := hide hnl2
      clear hMA2 hok2 hlang2 hnl2
      go_wp2_with fail
      refine Calls.ret (plain_any hMM2.out hOO2.out hL8 (by omega)) ?_
      rintro v w5 ⟨hb5, hown5⟩
      have hOWN5 := hide hown5
      obtain ⟨va, vl, vb, rfl, ho1, ho2, ho3⟩ := hown5
      obtain ⟨A5, d5, rfl⟩ := slice_of_own ho1
      obtain ⟨A6, d6, rfl⟩ := slice_of_own ho2
      obtain ⟨A7, d7, rfl⟩ := slice_of_own ho3
      have hB25 := hB24'.below hb5
      have hc25 := hB25.cell
      have hf25 := hB25.frozen
      have hsz5 := hb5.size
      have hlt5 := hB25.lt
      have hb05 : Below w.heap.size w w5 := hb04'.trans (hb5.mono (by omega))
      clear hc24' hf24'
      generalize hLe : a.letters.toNat = L at *
      have hLh := hide hLe
      clear hLe
      go_wp2_with fail
      obtain ⟨wF, hwF, hgF, hkF⟩ := set5_facts hB25 (.int .i64 (L : Int)) (.int .i64 (ac2.length : Int)) (.slice A5 (accIdx ac2).length d5) (.slice A6 (plLv lf2).length d6) (.slice A7 (plBr L ac2.length t2).length d7)
      change bodyPost _ _ _ _ _ (set5 w5 w1.heap.size (.int .i64 (L : Int)) (.int .i64 (ac2.length : Int)) (.slice A5 (accIdx ac2).length d5) (.slice A6 (plLv lf2).length d6) (.slice A7 (plBr L ac2.length t2).length d7))
      rw [hwF]
      have hcF := hgF.cell
      have hLx := hLh.out
      subst hLx
      have hne : ∀ g e cs, g = w1.heap.size → e ≠ 26 → ¬ Blk w5 g e cs := fun g e cs eg he hb => by subst eg; exact hB25.ne_ hb (fun h => he h.symm) rfl
      refine bodyPost_ret (v := .tuple #[.agg #[.int .i64 (a.letters.toNat : Int), .int .i64 (ac2.length : Int), .slice A5 (accIdx ac2).length d5, .slice A6 (plLv lf2).length d6, .slice A7 (plBr a.letters.toNat ac2.length t2).length d7], .int .i64 0]) (by simp [results, Try.results25, go_sem, hcF]) rfl ⟨hb05.trans (hkF.below (by omega) (fun b hb e => by omega)), 0, plainA a.letters.toNat ac2 lf2 t2, _, rfl, .inr (.inr ⟨hvv.out, by omega, by omega, hNL.out, ac, lf, t, cl, c, hOO.out, hle, hCC.out, hcut.out, hLIK.out, .inr ⟨hNL2.out, rfl, ac2, lf2, t2, hOO2.out, hle2, hLG2.out, rfl⟩⟩), (TAown.keep hOWN5.out hkF hne rfl hOO2.out hL8).weak (by omega)⟩
end Go.Proofs.Ytnimlcbgeiajiaa
