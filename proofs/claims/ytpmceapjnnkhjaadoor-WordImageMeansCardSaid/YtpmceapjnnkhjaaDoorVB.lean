/-
  Part VB of a proof.
-/
import Derived.Test.YtpmceapjnnkhjaaDoorPA
import Derived.Test.YtpmceapjnnkhjaaDoorPH
import Derived.Test.YtpmceapjnnkhjaaDoorPJ
import Derived.Test.YtpmceapjnnkhjaaDoorVA
import Derived.Test.YtpmceapjnnkhjaaDoorPK
set_option maxHeartbeats 16000000
set_option maxRecDepth 100000
set_option linter.unusedVariables false
set_option linter.unusedSimpArgs false
namespace Go.Proofs.YtpmceapjnnkhjaaDoor
open Go.RowKit
structure RepS (E : Nat → Nat → Prop) (i : Nat) (F nx : List Nat) : Prop where
 len : nx.length = i
 at_ : ∀ j v, nx[j]? = some v → ∃ f, F[v]? = some f ∧ E f j
 sep : ∀ (p q f g : Nat), p < q → F[p]? = some f → F[q]? = some g → ¬ E f g
 src : ∀ (p f : Nat), F[p]? = some f → f < i ∧ nx[f]? = some p
theorem RepS.start (E : Nat → Nat → Prop) : RepS E 0 [] [] := ⟨rfl, fun j v h => by simp at h, fun p q f g _ h => by simp at h, fun p f h => by simp at h⟩
theorem RepS.le {E : Nat → Nat → Prop} {i : Nat} {F nx : List Nat} (h : RepS E i F nx) : F.length ≤ i := by
 have hnd : F.Nodup := by
  refine List.pairwise_iff_getElem.2 fun p q hp hq hpq e => ?_
  have h1 := (h.src q _ (List.getElem?_eq_getElem hq)).2
  have h2 := (h.src p _ (List.getElem?_eq_getElem hp)).2
  rw [e, h1] at h2
  have := Option.some.inj h2
  omega
 have := sub_len F (List.range i) hnd (fun a ha => by
  obtain ⟨p, hp⟩ := List.mem_iff_getElem?.1 ha
  exact List.mem_range.2 (h.src p a hp).1)
 simpa using this
theorem snoc_get {D : Type} {l : List D} {x y : D} {j : Nat} (h : (l ++ [x])[j]? = some y) : l[j]? = some y ∨ j = l.length ∧ y = x := by
 by_cases hj : j < l.length
 ·rw [List.getElem?_append_left hj] at h
  exact .inl h
 ·have h1 := lt_of_get h
  simp at h1
  obtain rfl : j = l.length := by omega
  simp at h
  exact .inr ⟨rfl, h.symm⟩
theorem snoc_old {D : Type} {l : List D} {x y : D} {j : Nat} (h : l[j]? = some y) : (l ++ [x])[j]? = some y := by
 rw [List.getElem?_append_left (lt_of_get h)]
 exact h
theorem snoc_new {D : Type} (l : List D) (x : D) : (l ++ [x])[l.length]? = some x := by simp
theorem RepS.old {E : Nat → Nat → Prop} {i k f : Nat} {F nx : List Nat} (h : RepS E i F nx) (hk : F[k]? = some f) (hE : E f i) : RepS E (i + 1) F (nx ++ [k]) := by
 refine ⟨by simp [h.len], fun j v hj => ?_, h.sep, fun p g hp => ?_⟩
 ·rcases snoc_get hj with hj | ⟨rfl, rfl⟩
  ·exact h.at_ j v hj
  ·rw [h.len]; exact ⟨f, hk, hE⟩
 ·obtain ⟨h1, h2⟩ := h.src p g hp
  exact ⟨by omega, snoc_old h2⟩
theorem RepS.new {E : Nat → Nat → Prop} {i : Nat} {F nx : List Nat} (h : RepS E i F nx) (hE : E i i) (hn : ∀ (p f : Nat), F[p]? = some f → ¬ E f i) : RepS E (i + 1) (F ++ [i]) (nx ++ [F.length]) := by
 refine ⟨by simp [h.len], fun j v hj => ?_, fun p q f g hpq hp hq => ?_, fun p g hp => ?_⟩
 ·rcases snoc_get hj with hj | ⟨rfl, rfl⟩
  ·obtain ⟨f, h1, h2⟩ := h.at_ j v hj
   exact ⟨f, snoc_old h1, h2⟩
  ·rw [h.len]; exact ⟨i, snoc_new _ _, hE⟩
 ·rcases snoc_get hq with hq1 | ⟨e1, e2⟩
  ·rcases snoc_get hp with hp1 | ⟨e3, e4⟩
   ·exact h.sep p q f g hpq hp1 hq1
   ·have := lt_of_get hq1; omega
  ·rcases snoc_get hp with hp1 | ⟨e3, e4⟩
   ·rw [e2]; exact hn p f hp1
   ·omega
 ·rcases snoc_get hp with hp | ⟨rfl, rfl⟩
  ·obtain ⟨h1, h2⟩ := h.src p g hp
   exact ⟨by omega, snoc_old h2⟩
  ·refine ⟨by omega, ?_⟩
   rw [← h.len]; exact snoc_new _ _
section
variable {L n r : Nat} {nx : Nat → Nat → Nat} {acc : Nat → Bool} {cl os F : List Nat}
structure ClsI (L n : Nat) (nx : Nat → Nat → Nat) (acc : Nat → Bool) (r : Nat) (cl : List Nat) : Prop where
 len : cl.length = n
 iff : ∀ i j, i < n → j < n → (cl.getD i 0 = cl.getD j 0 ↔ EqW L nx acc r i j)
def AlikeW (L : Nat) (nx : Nat → Nat → Nat) (cl : List Nat) (a b : Nat) : Prop := cl.getD a 0 = cl.getD b 0 ∧ ∀ x, x < L → cl.getD (nx a x) 0 = cl.getD (nx b x) 0
theorem ClsI.alike (h : ClsI L n nx acc r cl) (hM : ∀ q x, q < n → x < L → nx q x < n) {a b : Nat} (ha : a < n) (hb : b < n) : AlikeW L nx cl a b ↔ EqW L nx acc (r + 1) a b := by
 show _ ∧ _ ↔ EqW L nx acc r a b ∧ _
 rw [h.iff a b ha hb]
 exact and_congr_right fun _ => forall_congr' fun x => forall_congr' fun hx => h.iff _ _ (hM a x ha hx) (hM b x hb hx)
theorem EqW.refl : ∀ r p, EqW L nx acc r p p
 | 0, _ => rfl
 | r + 1, p => ⟨EqW.refl r p, fun _ _ => EqW.refl r _⟩
theorem EqW.symm : ∀ (r : Nat) {p q : Nat}, EqW L nx acc r p q → EqW L nx acc r q p
 | 0, _, _, h => Eq.symm h
 | r + 1, _, _, h => ⟨EqW.symm r h.1, fun x hx => EqW.symm r (h.2 x hx)⟩
theorem EqW.trans : ∀ (r : Nat) {p q s : Nat}, EqW L nx acc r p q → EqW L nx acc r q s → EqW L nx acc r p s
 | 0, _, _, _, h, k => Eq.trans h k
 | r + 1, _, _, _, h, k => ⟨EqW.trans r h.1 k.1, fun x hx => EqW.trans r (h.2 x hx) (k.2 x hx)⟩
theorem RepS.cls {E : Nat → Nat → Prop} (h : RepS E n F os) (hE : ∀ i j, i < n → j < n → (E i j ↔ EqW L nx acc r i j)) : ClsI L n nx acc r os ∧ ∀ i, i < n → os.getD i 0 < n := by
 refine ⟨⟨h.len, fun i j hi hj => ?_⟩, fun i hi => ?_⟩
 ·obtain ⟨u, hu⟩ := get_lt (l := os) (i := i) (by rw [h.len]; exact hi)
  obtain ⟨v, hv⟩ := get_lt (l := os) (i := j) (by rw [h.len]; exact hj)
  rw [getD_some hu, getD_some hv]
  obtain ⟨f, hf, e1⟩ := h.at_ i u hu
  obtain ⟨g, hg, e2⟩ := h.at_ j v hv
  have hfn := (h.src u f hf).1
  have hgn := (h.src v g hg).1
  have e1 := (hE f i hfn hi).1 e1
  have e2 := (hE g j hgn hj).1 e2
  constructor
  ·rintro rfl
   rw [hf] at hg
   injection hg with hg
   subst hg
   exact EqW.trans r (EqW.symm r e1) e2
  ·intro e
   have h1 : EqW L nx acc r f g := EqW.trans r e1 (EqW.trans r e (EqW.symm r e2))
   rcases Nat.lt_trichotomy u v with hl | rfl | hl
   ·exact (h.sep u v f g hl hf hg ((hE f g hfn hgn).2 h1)).elim
   ·rfl
   ·exact (h.sep v u g f hl hg hf ((hE g f hgn hfn).2 (EqW.symm r h1))).elim
 ·obtain ⟨u, hu⟩ := get_lt (l := os) (i := i) (by rw [h.len]; exact hi)
  obtain ⟨f, hf, -⟩ := h.at_ i u hu
  rw [getD_some hu]
  have := lt_of_get hf
  have := h.le
  omega
theorem ClsI.norm (h : ClsI L n nx acc r cl) : ClsAt L n nx acc r (cRow cl) (dd cl).length := by
 refine ⟨by rw [cRow_len, h.len], fun i j hi hj => ?_, fun v => cRow_mem⟩
 obtain ⟨a, ha⟩ := get_lt (l := cl) (i := i) (by rw [h.len]; exact hi)
 obtain ⟨b, hb⟩ := get_lt (l := cl) (i := j) (by rw [h.len]; exact hj)
 rw [cRow_eq ha hb, ← h.iff i j hi hj, getD_some ha, getD_some hb]
theorem ClsI.grow (h : ClsI L n nx acc r cl) (h' : ClsI L n nx acc (r + 1) os) : (dd cl).length ≤ (dd os).length := h.norm.grow h'.norm
def EqD (L : Nat) (nx : Nat → Nat → Nat) (acc : Nat → Bool) (d : Int) (i j : Nat) : Prop := if d < 0 then ∀ r, EqW L nx acc r i j else EqW L nx acc d.toNat i j
structure ClsR (L n : Nat) (nx : Nat → Nat → Nat) (acc : Nat → Bool) (d : Int) (cl : List Nat) : Prop where
 len : cl.length = n
 iff : ∀ i j, i < n → j < n → (cl.getD i 0 = cl.getD j 0 ↔ EqD L nx acc d i j)
 le : ∀ i, i < n → cl.getD i 0 ≤ n
 lt : d < 0 → ∀ i, i < n → cl.getD i 0 < n
theorem ClsR.toW (h : ClsR L n nx acc (-1) cl) : ClsW L n nx acc cl := ⟨h.len, fun i j hi hj => by
 have := h.iff i j hi hj
 unfold EqD at this
 rwa [if_pos (by omega)] at this, h.lt (by omega)⟩
theorem ClsI.atDepth (h : ClsI L n nx acc r cl) (hle : ∀ i, i < n → cl.getD i 0 ≤ n) {d : Int} (hd : (r : Int) = d) : ClsR L n nx acc d cl := by
 refine ⟨h.len, fun i j hi hj => ?_, hle, fun h0 => by omega⟩
 unfold EqD
 rw [if_neg (by omega), ← hd]
 exact h.iff i j hi hj
theorem ClsI.atRest (hM : ∀ q x, q < n → x < L → nx q x < n) (h : ClsI L n nx acc r cl) (h' : ClsI L n nx acc (r + 1) os) (hlt : ∀ i, i < n → os.getD i 0 < n) (he : (dd os).length = (dd cl).length) {d : Int} (hd : d < 0 ∨ (r : Int) ≤ d) : ClsR L n nx acc d os := by
 have ha := h.norm
 have hb := h'.norm
 rw [he] at hb
 have hst := fun d {i j} => EqW.stable hM (fun i j hi hj he => ha.rest hb hi hj he) d (i := i) (j := j)
 refine ⟨h'.len, fun i j hi hj => (h'.iff i j hi hj).trans ?_, fun i hi => Nat.le_of_lt (hlt i hi), fun _ => hlt⟩
 unfold EqD
 by_cases h0 : d < 0
 ·rw [if_pos h0]
  exact ⟨fun e k => EqW.le (r := k) r (by rw [Nat.add_comm]; exact hst k hi hj e.1), fun e => e (r + 1)⟩
 ·rw [if_neg h0]
  obtain ⟨k, hk⟩ : ∃ k, d.toNat = r + k := ⟨d.toNat - r, by omega⟩
  rw [hk]
  exact ⟨fun e => hst k hi hj e.1, fun e => ha.rest hb hi hj (EqW.le k e)⟩
def clsA (ac : List Bool) : List Nat := ac.map fun b => if b = true then 1 else 0
theorem clsA_I (ac : List Bool) : ClsI L ac.length nx (dac ac) 0 (clsA ac) := by
 refine ⟨by simp [clsA], fun i j hi hj => ?_⟩
 obtain ⟨a, ha⟩ := get_lt hi
 obtain ⟨b, hb⟩ := get_lt hj
 have e1 : (clsA ac).getD i 0 = if a = true then 1 else 0 := getD_some (map_get (f := fun b : Bool => if b = true then 1 else 0) ha)
 have e2 : (clsA ac).getD j 0 = if b = true then 1 else 0 := getD_some (map_get (f := fun b : Bool => if b = true then 1 else 0) hb)
 show _ ↔ dac ac i = dac ac j
 have e3 : dac ac i = a := getD_some ha
 have e4 : dac ac j = b := getD_some hb
 rw [e1, e2, e3, e4]
 cases a <;> cases b <;> simp
theorem clsA_le (ac : List Bool) (i : Nat) : (clsA ac).getD i 0 ≤ 1 := by
 rw [List.getD_eq_getElem?_getD]
 cases h : (clsA ac)[i]? with
 | none => simp
 | some x =>
  simp only [Option.getD_some]
  obtain ⟨b, -, rfl⟩ := List.mem_map.1 (List.mem_of_getElem? h)
  split <;> omega
end
end Go.Proofs.YtpmceapjnnkhjaaDoor
namespace Go.Proofs.YtpmceapjnnkhjaaDoor
open Go.RowKit
theorem accI_ext {ac bc : List Bool} {i : Nat} (h : ac <+: bc) (hi : i ≤ ac.length) : accI bc i = accI ac i := by
 unfold accI
 congr 1
 refine List.filter_congr fun j hj => ?_
 have hj := List.mem_range.1 hj
 obtain ⟨b, hb⟩ := get_lt (l := ac) (i := j) (by omega)
 unfold dac
 rw [getD_some hb, getD_some (prefix_get h hb)]
theorem edgE_pre {L q : Nat} {t t' : List (List Nat)} (h : t <+: t') (hq : q ≤ t.length) : edgE L t' q = edgE L t q := by
 unfold edgE
 simp only [List.flatMap]
 congr 1
 refine List.map_congr_left fun j hj => ?_
 have hj := List.mem_range.1 hj
 obtain ⟨r, hr⟩ := get_lt (l := t) (i := j) (by omega)
 unfold rowE
 refine List.map_congr_left fun x _ => ?_
 unfold dnx
 rw [getD_some hr, getD_some (prefix_get h hr)]
section
variable {S : Type} [DecidableEq S] {L : Nat} {δ : S → Nat → S} {s0 : S}
def rowP (δ : S → Nat → S) (all : List S) (k : S) (i x : Nat) : List Edg := (List.range x).map fun y : Nat => ⟨(i : Int), (y : Int), (posL all (δ k y) : Int)⟩
theorem rowP_zero (all : List S) (k : S) (i : Nat) : rowP δ all k i 0 = [] := rfl
theorem rowP_len (all : List S) (k : S) (i x : Nat) : (rowP δ all k i x).length = x := by simp [rowP]
theorem rowP_succ (all : List S) (k : S) (i x : Nat) : rowP δ (rowL δ k all (x + 1)) k i (x + 1) = rowP δ (rowL δ k all x) k i x ++ [⟨(i : Int), (x : Int), (posL (rowL δ k all (x + 1)) (δ k x) : Int)⟩] := by
 unfold rowP
 rw [List.range_succ, List.map_append]
 congr 1
 refine List.map_congr_left fun y hy => ?_
 rw [posG_step (List.mem_range.1 hy)]
theorem rowP_done {all all' : List S} {i : Nat} {k : S} (h : Exp L δ s0 i all) (hp : all <+: all') (hk : all[i]? = some k) : edgE L (rowsG L δ all i) i ++ rowP δ all' k i L = edgE L (rowsG L δ all' (i + 1)) (i + 1) := by
 have hk' := prefix_get hp hk
 have hi := lt_of_get hk
 have hl := rowsG_len (L := L) (δ := δ) (all := all) (i := i) (by omega)
 rw [edgE_succ, rowsG_succ hk', rowsG_ext h hp, edgE_pre (List.prefix_append _ _) (by omega)]
 congr 1
 unfold rowP rowE
 refine List.map_congr_left fun x hx => ?_
 have hx := List.mem_range.1 hx
 have h1 : (rowsG L δ all i ++ [(List.range L).map fun x => posL all' (δ k x)])[i]? = some ((List.range L).map fun x => posL all' (δ k x)) := by
  rw [List.getElem?_append_right (by omega), hl]
  simp
 have h2 : ((List.range L).map fun x => posL all' (δ k x))[x]? = some (posL all' (δ k x)) := map_get (f := fun x => posL all' (δ k x)) (List.getElem?_range hx)
 unfold dnx
 rw [getD_some h1, getD_some h2]
end
theorem plainW_all (L : Nat) (t : List (List Nat)) (ac : List Bool) : (⟨(L : Int), (ac.length : Int), [0], accI ac ac.length, edgE L t ac.length⟩ : WA) = plainW L t ac := rfl
theorem posL_first {S : Type} [DecidableEq S] : ∀ {l : List S} {a : S} {k : Nat}, l[k]? = some a → (∀ j, j < k → l[j]? ≠ some a) → posL l a = k
 | [], _, _, h, _ => by simp at h
 | b :: l, a, 0, h, _ => by
  have : b = a := by simpa using h
  simp [posL, this]
 | b :: l, a, k + 1, h, hn => by
  have hb : b ≠ a := fun e => hn 0 (by omega) (by simp [e])
  have ih := posL_first (l := l) (a := a) (k := k) (by simpa using h) fun j hj => by
   have := hn (j + 1) (by omega)
   simpa using this
  unfold posL at ih ⊢
  rw [List.idxOf_cons, show (b == a) = false by simpa using hb, ih]
  rfl
theorem not_mem_first {S : Type} {l : List S} {a : S} (h : ∀ j, j < l.length → l[j]? ≠ some a) : a ∉ l := fun hm => by
 obtain ⟨j, hj⟩ := List.mem_iff_getElem?.1 hm
 exact h j (lt_of_get hj) hj
end Go.Proofs.YtpmceapjnnkhjaaDoor
namespace Go.Proofs.YtpmceapjnnkhjaaDoor
open Go.RowKit
set_option maxHeartbeats 16000000
set_option maxRecDepth 100000
theorem sameMarks_any {w : World} {B1 B2 S : Nat} {u1 u2 : Value} {m1 m2 : List Bool} (h1 : Marks w B1 u1 m1) (h2 : Marks w B2 u2 m2) (hl1 : m1.length = S) (hl2 : m2.length = S) (hS : S ≤ 300000) :
    Calls Tryd.prog 73 #[u1, u2] w (Ret fun v w' => v = .bool (decide (m1 = m2)) ∧ Below w.heap.size w w') := by
  obtain ⟨g1, hg1, rfl, hb1⟩ := h1
  obtain ⟨g2, hg2, rfl, hb2⟩ := h2
  rw [hl1, hl2]
  have hL1 := hide hl1
  have hL2 := hide hl2
  have hb1H := hide hb1
  have hb2H := hide hb2
  clear hl1 hl2 hb1 hb2
  go_enter Tryd.func73, Tryd.ntmps73
  go_wp2_with fail
  go_loopw [5] (fun ii wr => ∃ (i : Nat), ii = .int .i64 (i : Int) ∧ i ≤ S ∧ Below w.heap.size w wr ∧ Hid (∀ j, j < i → m1[j]? = m2[j]?)) (fun ii _ => S - (intOf ii).toNat)
  case atStart => exact ⟨0, rfl, Nat.zero_le _, Below.refl _ _, fun j hj => absurd hj (by omega)⟩
  case round =>
    obtain ⟨i, rfl, hi, hB, hE⟩ := hrel
    by_cases hlt : i < S
    · obtain ⟨b1, e1⟩ := get_lt (l := m1) (i := i) (by rw [hL1.out]; exact hlt)
      obtain ⟨b2, e2⟩ := get_lt (l := m2) (i := i) (by rw [hL2.out]; exact hlt)
      have hc1 := Marks.cell (hb1H.out.below hB) e1
      have hc2 := Marks.cell (hb2H.out.below hB) e2
      have hst := hide (hB.trans ((drewB wr).mono hB.size))
      have he1 := hide e1
      have he2 := hide e2
      clear e1 e2
      go_wp2_with fail
      refine Reg.cP [0, 0, 3, 7, 0, 0, 48, 112, 255] ?_
      cases b1 <;> cases b2
      all_goals
        go_wp2_with fail
        first
        | (refine ⟨⟨i + 1, by simp, by omega, hst.out, fun j hj => ?_⟩, by simp [intOf]; omega⟩
           by_cases hji : j = i
           · subst hji
             rw [he1.out, he2.out]
           · exact hE.out j (by omega))
        | (go_ret
           refine ⟨congrArg Value.bool (decide_eq_false fun e => ?_).symm, hst.out⟩
           have h1 := he1.out
           rw [e, he2.out] at h1
           cases h1)
    · go_wp2_with fail
      go_ret
      refine ⟨congrArg Value.bool (decide_eq_true (List.ext_getElem? fun j => ?_)).symm, hB⟩
      by_cases hj : j < S
      · exact hE.out j (by omega)
      · rw [List.getElem?_eq_none (by rw [hL1.out]; omega), List.getElem?_eq_none (by rw [hL2.out]; omega)]
def NumsAt (w : World) (g n : Nat) (xs : List Nat) : Prop := xs.length = n ∧ g < w.heap.size ∧ ∀ j y : Nat, xs[j]? = some y → w.cell? ⟨g, j, none⟩ = some (.int .i64 (y : Int))
theorem NumsAt.below {w w' : World} {g n : Nat} {xs : List Nat} (h : NumsAt w g n xs) (hb : Below w.heap.size w w') : NumsAt w' g n xs := ⟨h.1, by have := hb.size; have := h.2.1; omega, fun j y hj => (hb.cell (by exact h.2.1)).trans (h.2.2 j y hj)⟩
theorem NumsAt.sl {w : World} {g n : Nat} {xs : List Nat} (h : NumsAt w g n xs) (hn : n ≤ 4000000) : Sl w w.heap.size 1 encI (some ⟨g, 0, none⟩) (natL xs) := by
 obtain ⟨h1, h2, h3⟩ := h
 refine ⟨by simp [natL]; omega, fun _ => ⟨g, 0, rfl, h2, fun k d hd j hj => ?_⟩⟩
 obtain ⟨y, hy⟩ := get_lt (l := xs) (i := k) (by have := lt_of_get hd; simpa [natL] using this)
 have hdy : d = (y : Int) := by
  rw [natL, List.getElem?_map, hy] at hd
  exact (Option.some.inj hd).symm
 have hj0 : j = 0 := by omega
 subst hj0 hdy
 have := h3 k y hy
 simpa [encI] using this
theorem NumsAt.take {w : World} {g n k : Nat} {xs : List Nat} (h : NumsAt w g n xs) (hk : k ≤ n) : NumsAt w g k (xs.take k) := by
 refine ⟨by rw [List.length_take, h.1]; omega, h.2.1, fun j y hj => ?_⟩
 rw [List.getElem?_take] at hj
 split at hj
 ·exact h.2.2 j y hj
 ·cases hj
theorem NumsAt.of_blk {w : World} {g n : Nat} {xs : List Nat} (h : Blk w g 3 (fillC n xs)) (hl : xs.length = n) : NumsAt w g n xs := by
 refine ⟨hl, h.lt, fun j y hj => ?_⟩
 rw [h.cell]
 unfold fillC
 have h1 := lt_of_get hj
 rw [List.getElem?_toArray, List.getElem?_append_left (by simpa using h1), List.getElem?_map, hj]
 rfl
theorem dd_take {xs : List Nat} {k y : Nat} (h : xs[k]? = some y) : (dd (xs.take (k + 1))).length = (dd (xs.take k)).length + if y ∈ xs.take k then 0 else 1 := by
 rw [take_snoc h, dd_snoc]
 unfold meetL
 by_cases hm : y ∈ xs.take k
 ·rw [if_pos (mem_dd.2 hm), if_pos hm]
  rfl
 ·rw [if_neg (fun h => hm (mem_dd.1 h)), if_neg hm, List.length_append]
  rfl
theorem kinds_any {w : World} {g n c : Nat} {xs : List Nat} (h : NumsAt w g n xs) (hc : n ≤ c) (hn : n ≤ 300000) :
  Calls Tryd.prog 110 #[.slice (some ⟨g, 0, none⟩) n c] w (Ret fun v w' => v = .int .i64 ((dd xs).length : Int) ∧ Below w.heap.size w w') := by
 have hH := hide h
 have hlen := hide h.1
 clear h
 go_enter Tryd.func110, Tryd.ntmps110
 go_wp2_with fail
 go_loopw [3, 4] (fun nn ii wr => ∃ (k m : Nat), ii = .int .i64 (k : Int) ∧ k ≤ n ∧ nn = .int .i64 (m : Int) ∧ m ≤ k ∧ Hid (m = (dd (xs.take k)).length) ∧ Below w.heap.size w wr) (fun _ ii _ => n - (intOf ii).toNat)
 case atStart => exact ⟨0, 0, rfl, Nat.zero_le _, rfl, Nat.le_refl _, hide rfl, Below.refl _ _⟩
 case round =>
  obtain ⟨k, m, rfl, hk, rfl, hmk, hm, hB⟩ := hrel
  by_cases hlt : k < n
  ·obtain ⟨y, hy⟩ := get_lt (l := xs) (i := k) (by rw [hlen.out]; exact hlt)
   have hA := hH.out.below hB
   have hc1 := hA.2.2 k y hy
   have hdt := hide (dd_take hy)
   have hsl := (hA.take (k := k) (by omega)).sl (by omega)
   have hT : (natL (xs.take k)).length = k := by simp [natL]; have := hlen.out; omega
   have hHB := hide hB
   have hkc : k ≤ c := by omega
   have hhas : ∀ (b : Bool) (nn : Nat), decide (y ∈ xs.take k) = b → Calls Tryd.prog 57 #[.slice (some ⟨g, 0, none⟩) k c, .int .i64 (y : Int)] (wr.drewN nn) fun e w' => e = .returned (.bool b) ∧ w' = wr.drewN nn := fun b nn hb => by
    have := has_any (c := c) (y : Int) (hsl.keep (w' := wr.drewN nn) (fun p hp => ((Kept.refl wr (fun _ => False)).drewN nn).cell hp id) (Nat.le_refl _))
    rw [hT] at this
    refine this.mono fun e w' h => ⟨?_, h.2.symm⟩
    rw [h.1, ← hb]
    congr 2
    rw [decide_eq_decide]
    unfold natL
    rw [List.mem_map]
    constructor
    ·rintro ⟨z, hz, e⟩
     have : z = y := by omega
     rw [← this]; exact hz
    ·intro hz
     exact ⟨y, hz, rfl⟩
   have hhH := hide hhas
   clear hy hA hB hsl hT hhas
   by_cases hmm : y ∈ xs.take k
   ·have hd : Hid (decide (y ∈ xs.take k) = true) := decide_eq_true hmm
    have hs : Hid (m = (dd (xs.take (k + 1))).length) := by
     show _ = _
     rw [hdt.out, if_pos hmm, ← hm.out]
     rfl
    clear hmm
    go_wp2_with fail
    go_quiet ((go_at_call 57; exact Calls.quiet_of_same (hhH.out true _ hd.out)))
    go_wp2_with fail
    exact ⟨⟨k + 1, m, by go_num, by omega, rfl, by omega, hs, hHB.out.trans (((Kept.refl wr (fun _ => False)).drewN _).below hHB.out.size (fun _ _ h => h.elim))⟩, by simp [intOf]; omega⟩
   ·have hd : Hid (decide (y ∈ xs.take k) = false) := decide_eq_false hmm
    have hs : Hid (m + 1 = (dd (xs.take (k + 1))).length) := by
     show _ = _
     rw [hdt.out, if_neg hmm, ← hm.out]
    clear hmm
    go_wp2_with fail
    go_quiet ((go_at_call 57; exact Calls.quiet_of_same (hhH.out false _ hd.out)))
    go_wp2_with fail
    exact ⟨⟨k + 1, m + 1, by go_num, by omega, by go_num, by omega, hs, hHB.out.trans (((Kept.refl wr (fun _ => False)).drewN _).below hHB.out.size (fun _ _ h => h.elim))⟩, by simp [intOf]; omega⟩
  ·obtain rfl : k = n := by omega
   go_wp2_with fail
   go_ret
   refine ⟨?_, hB⟩
   have := hm.out
   rw [List.take_of_length_le (by rw [hlen.out]; exact Nat.le_refl _)] at this
   show Value.int .i64 (m : Int) = _
   rw [this]
structure TabF (w : World) (L n : Nat) (vN vA : Value) (t : List (List Nat)) (ac : List Bool) : Prop where
 rd : IsDF w w.heap.size (.agg #[vN, vA]) t ac
 ok : DOK L t ac
 n : ac.length = n
theorem TabF.below {w w' : World} {L n : Nat} {vN vA : Value} {t : List (List Nat)} {ac : List Bool} (h : TabF w L n vN vA t ac) (hb : Below w.heap.size w w') : TabF w' L n vN vA t ac := ⟨h.rd.keep (fun _ hp => hb.cell hp) hb.size, h.ok, h.n⟩
theorem TabF.at {w : World} {L n : Nat} {vN vA : Value} {t : List (List Nat)} {ac : List Bool} (h : TabF w L n vN vA t ac) : ∃ b off c, vN = .slice (some ⟨b, off, none⟩) n c ∧ b < w.heap.size ∧ ∀ q, q < n → ∃ A c', w.cell? ⟨b, off + q, none⟩ = some (.slice A L c') ∧ ∀ x, x < L → ∃ b2 o2, A = some ⟨b2, o2, none⟩ ∧ b2 < w.heap.size ∧ w.cell? ⟨b2, o2 + x, none⟩ = some (.int .i64 (dnx t q x : Int)) ∧ dnx t q x < n := by
 obtain ⟨A1, c1, A2, c2, e, h1, h2⟩ := h.rd
 injection e with e
 simp only [Array.mk.injEq, List.cons.injEq, and_true] at e
 obtain ⟨rfl, rfl⟩ := e
 have hp := h.ok.pos
 have hlt := h.ok.len
 have hn := h.n
 obtain ⟨r0, hr0⟩ := get_lt (l := t) (i := 0) (by omega)
 obtain ⟨b, off, v0, rfl, hb, -, -⟩ := h1.at hr0
 refine ⟨b, off, c1, by rw [hlt, hn], hb, fun q hq => ?_⟩
 obtain ⟨b', off', A, c', row, e, hb', hc, hrow, hrl, hrS, hrv⟩ := df_row h1 h.ok (q := q) (by omega)
 injection e with e
 injection e with e1 e2
 subst e1 e2
 refine ⟨A, c', hc, fun x hx => ?_⟩
 obtain ⟨y, hy⟩ := get_lt (l := row) (i := x) (by omega)
 obtain ⟨b2, o2, rfl, hb2, hc2⟩ := sl_natat hrS hy
 obtain ⟨h3, h4⟩ := hrv x y hy
 exact ⟨b2, o2, rfl, hb2, by rw [h4]; exact hc2, by omega⟩
theorem TabF.mark {w : World} {L n : Nat} {vN vA : Value} {t : List (List Nat)} {ac : List Bool} (h : TabF w L n vN vA t ac) : ∃ b off c, vA = .slice (some ⟨b, off, none⟩) n c ∧ b < w.heap.size ∧ ∀ q, q < n → w.cell? ⟨b, off + q, none⟩ = some (.bool (dac ac q)) := by
 obtain ⟨A1, c1, A2, c2, e, h1, h2⟩ := h.rd
 injection e with e
 simp only [Array.mk.injEq, List.cons.injEq, and_true] at e
 obtain ⟨rfl, rfl⟩ := e
 have hp := h.ok.pos
 have hn := h.n
 obtain ⟨b0, hb0⟩ := get_lt (l := ac) (i := 0) hp
 obtain ⟨b, off, rfl, hb, -⟩ := sl_boolat h2 hb0
 refine ⟨b, off, c2, by rw [hn], hb, fun q hq => ?_⟩
 obtain ⟨x, hx⟩ := get_lt (l := ac) (i := q) (by omega)
 obtain ⟨b', off', e, -, hc⟩ := sl_boolat h2 hx
 injection e with e
 injection e with e1 e2
 subst e1 e2
 rw [hc]
 unfold dac
 rw [getD_some hx]
theorem alike_any {w : World} {L n g c a b : Nat} {vN vA : Value} {t : List (List Nat)} {ac : List Bool} {cl : List Nat} (hT : TabF w L n vN vA t ac) (hC : NumsAt w g n cl) (ha : a < n) (hb : b < n) (hn : n ≤ 300000) (hL : L ≤ 8) :
  Calls Tryd.prog 109 #[.agg #[vN, vA], .slice (some ⟨g, 0, none⟩) n c, .int .i64 (L : Int), .int .i64 (a : Int), .int .i64 (b : Int)] w (Ret fun v w' => (∃ r : Bool, v = .bool r ∧ (r = true ↔ AlikeW L (dnx t) cl a b)) ∧ Below w.heap.size w w') := by
 obtain ⟨bA, oA, cA, rfl, -⟩ := hT.mark
 obtain ⟨bN, oN, cN, rfl, hbN, hrows⟩ := hT.at
 obtain ⟨w1, hw1, hb1, hB1, hk1⟩ := box_blk w #[.slice (some ⟨bN, oN, none⟩) n cN, .slice (some ⟨bA, oA, none⟩) n cA] 95
 have hs1 := hb1.size
 have hB1H := hide hB1
 have hrH := hide hrows
 have hCH := hide (hC.below hb1)
 have hlen := hide hC.1
 have hb1H := hide hb1
 obtain ⟨ka, hka⟩ := get_lt (l := cl) (i := a) (by rw [hC.1]; exact ha)
 obtain ⟨kb, hkb⟩ := get_lt (l := cl) (i := b) (by rw [hC.1]; exact hb)
 have hca := hCH.out.2.2 a ka hka
 have hcb := hCH.out.2.2 b kb hkb
 have hga : Hid (cl.getD a 0 = ka) := getD_some hka
 have hgb : Hid (cl.getD b 0 = kb) := getD_some hkb
 clear hka hkb hrows hC hb1 hB1 hk1 hT
 by_cases hab : ka = kb
 ·have habI : (ka : Int) = (kb : Int) := by omega
  have habH := hide hab
  clear hab
  go_enter Tryd.func109, Tryd.ntmps109
  go_wp2_with fail
  go_quiet (fail)
  go_wp2_with fail
  go_loopw [11] (fun ii wr => ∃ (x : Nat), ii = .int .i64 (x : Int) ∧ x ≤ L ∧ Below w1.heap.size w1 wr ∧ Hid (∀ y, y < x → cl.getD (dnx t a y) 0 = cl.getD (dnx t b y) 0)) (fun ii _ => L - (intOf ii).toNat)
  case atStart => exact ⟨0, rfl, Nat.zero_le _, ((Kept.refl w1 (fun _ => False)).drewN _).below (Nat.le_refl _) (fun _ _ h => h.elim), fun y hy => absurd hy (by omega)⟩
  case round =>
   obtain ⟨x, rfl, hx, hB, hE⟩ := hrel
   have hall := hide (hb1H.out.trans (hB.mono hs1))
   have hBH := hide hB
   by_cases hlt : x < L
   ·obtain ⟨Aa, ca', hr1, hra⟩ := hrH.out a ha
    obtain ⟨Ab, cb', hr2, hrb⟩ := hrH.out b hb
    obtain ⟨b1, o1, rfl, hb1', hx1, hy1⟩ := hra x hlt
    obtain ⟨b2, o2, rfl, hb2', hx2, hy2⟩ := hrb x hlt
    obtain ⟨z1, hz1⟩ := get_lt (l := cl) (i := dnx t a x) (by rw [hlen.out]; exact hy1)
    obtain ⟨z2, hz2⟩ := get_lt (l := cl) (i := dnx t b x) (by rw [hlen.out]; exact hy2)
    have c1 := (hB1H.out.below hB).cell
    have c2 := (hall.out.cell (p := ⟨bN, oN + a, none⟩) hbN).trans hr1
    have c3 := (hall.out.cell (p := ⟨bN, oN + b, none⟩) hbN).trans hr2
    have c4 := (hall.out.cell (p := ⟨b1, o1 + x, none⟩) hb1').trans hx1
    have c5 := (hall.out.cell (p := ⟨b2, o2 + x, none⟩) hb2').trans hx2
    have c6 := (hCH.out.below hB).2.2 _ z1 hz1
    have c7 := (hCH.out.below hB).2.2 _ z2 hz2
    have g1 : Hid (cl.getD (dnx t a x) 0 = z1) := getD_some hz1
    have g2 : Hid (cl.getD (dnx t b x) 0 = z2) := getD_some hz2
    obtain ⟨y1, hy1e⟩ : ∃ y1, y1 = dnx t a x := ⟨_, rfl⟩
    obtain ⟨y2, hy2e⟩ : ∃ y2, y2 = dnx t b x := ⟨_, rfl⟩
    rw [← hy1e] at c4 c6 hy1
    rw [← hy2e] at c5 c7 hy2
    clear hr1 hr2 hra hrb hx1 hx2 hz1 hz2 hy1e hy2e hB
    by_cases hzz : z1 = z2
    ·have hzI : (z1 : Int) = (z2 : Int) := by omega
     have hzH := hide hzz
     clear hzz
     go_wp2_with fail
     go_quiet (fail)
     go_wp2_with fail
     refine ⟨⟨x + 1, by go_num, by omega, hBH.out.trans (((Kept.refl wr (fun _ => False)).drewN _).below hBH.out.size (fun _ _ h => h.elim)), fun y hy => ?_⟩, by simp [intOf]; omega⟩
     by_cases e : y = x
     ·subst e
      rw [g1.out, g2.out, hzH.out]
     ·exact hE.out y (by omega)
    ·have hzI : ¬ (z1 : Int) = (z2 : Int) := by omega
     have hzH := hide hzz
     clear hzz
     go_wp2_with fail
     go_quiet (fail)
     go_wp2_with fail
     go_ret
     refine ⟨⟨false, rfl, ?_⟩, hall.out.trans (((Kept.refl wr (fun _ => False)).drewN _).below hall.out.size (fun _ _ h => h.elim))⟩
     constructor
     ·intro h; cases h
     ·intro h
      have := h.2 x hlt
      rw [g1.out, g2.out] at this
      exact (hzH.out this).elim
   ·go_wp2_with fail
    go_ret
    refine ⟨⟨true, rfl, ?_⟩, hall.out⟩
    constructor
    ·intro _
     exact ⟨by rw [hga.out, hgb.out, habH.out], fun y hy => hE.out y (by omega)⟩
    ·intro _; rfl
 ·have habI : ¬ (ka : Int) = (kb : Int) := by omega
  have habH := hide hab
  clear hab
  go_enter Tryd.func109, Tryd.ntmps109
  go_wp2_with fail
  go_quiet (fail)
  go_wp2_with fail
  go_ret
  refine ⟨⟨false, rfl, ?_⟩, hb1H.out.trans (((Kept.refl w1 (fun _ => False)).drewN _).below hs1 (fun _ _ h => h.elim))⟩
  constructor
  ·intro h; cases h
  ·intro h
   have := h.1
   rw [hga.out, hgb.out] at this
   exact (habH.out this).elim
end Go.Proofs.YtpmceapjnnkhjaaDoor
namespace Go.Proofs.YtpmceapjnnkhjaaDoor
open Go.RowKit
set_option maxHeartbeats 16000000
set_option maxRecDepth 100000
theorem info70 : (Tryd.prog.info? 70).map (fun i => (i.zero, i.size, i.bytes)) = some (some (.slice none 0 0), 1, 24) := by kernel_rfl
theorem row70 : RowTy Tryd.prog 99 70 1 := rowTy_of Tryd.underlying99 info70 rfl (by omega) (by omega)
def SetAt (wr : World) (base : Nat) (vA u : Value) (m : List Bool) : Prop := ∃ g, u = .slice (some ⟨g, 0, none⟩) m.length m.length ∧ base ≤ g ∧ Blk wr g 4 (m.map Value.bool).toArray ∧ vA.ownBlock ≠ some g
structure SbM (w0 wr : World) (g2 g4 g6 : Nat) (cs : Array Value) (vN vA vS : Value) (all : List (List Bool)) (t : List (List Nat)) (as' : List Bool) (us ws : List Value) (N : Nat → Prop) : Prop where
 below : Below w0.heap.size w0 wr
 b2 : Blk wr g2 25 cs
 b4 : Blk wr g4 95 #[sn0, sn0]
 b6 : Blk wr g6 95 #[vN, vA]
 sets : wr.ownsRow w0.heap.size 70 1 vS all.length us
 setR : F2 (fun u m => SetAt wr w0.heap.size vA u m) us all
 acc : wr.ownsRow w0.heap.size 4 1 vA as'.length (as'.map Value.bool)
 nxt : wr.ownsRow w0.heap.size 22 1 vN t.length ws
 nxtR : RowsI wr w0.heap.size N ws (t.map natL)
 ne : g4 ≠ g6
 ge : w0.heap.size ≤ g2 ∧ w0.heap.size ≤ g4 ∧ w0.heap.size ≤ g6
theorem SetAt.kept {wr w' : World} {base : Nat} {vA vA' u : Value} {m : List Bool} {X : Nat → Prop} (h : SetAt wr base vA u m) (hk : Kept wr w' X) (hX : ∀ g cs, X g → Blk wr g 4 cs → vA.ownBlock ≠ some g → False) (hA : ∀ g, g < wr.heap.size → vA.ownBlock ≠ some g → vA'.ownBlock ≠ some g) : SetAt w' base vA' u m := by
 obtain ⟨g, h1, h2, h3, h4⟩ := h
 exact ⟨g, h1, h2, h3.kept hk (fun x => hX g _ x h3 h4), hA g h3.lt h4⟩
section
variable {w0 wr w' : World} {g2 g4 g6 : Nat} {cs : Array Value} {vN vA vS : Value} {all : List (List Bool)} {t : List (List Nat)} {as' : List Bool} {us ws : List Value} {N : Nat → Prop}
theorem SbM.keep (h : SbM w0 wr g2 g4 g6 cs vN vA vS all t as' us ws N) (hb : Below wr.heap.size wr w') : SbM w0 w' g2 g4 g6 cs vN vA vS all t as' us ws N :=
 ⟨h.below.trans (hb.mono h.below.size), h.b2.below hb, h.b4.below hb, h.b6.below hb, own_below h.sets hb, h.setR.imp fun _ _ hs => hs.kept (Kept.of_below hb (fun _ => False)) (fun _ _ x => x.elim) (fun _ _ x => x), own_below h.acc hb, own_below h.nxt hb,
  h.nxtR.keep (Kept.of_below hb (fun _ => False)) (fun _ _ _ e => e.elim) (fun _ _ x => x) (Nat.le_refl _), h.ne, h.ge⟩
theorem SbM.weak {N' : Nat → Prop} (h : SbM w0 wr g2 g4 g6 cs vN vA vS all t as' us ws N) (hN : ∀ g, g < wr.heap.size → N g → N' g) : SbM w0 wr g2 g4 g6 cs vN vA vS all t as' us ws N' :=
 ⟨h.below, h.b2, h.b4, h.b6, h.sets, h.setR, h.acc, h.nxt, h.nxtR.keep (Kept.refl wr (fun _ => False)) (fun _ _ _ e => e.elim) hN (Nat.le_refl _), h.ne, h.ge⟩
theorem SbM.at (h : SbM w0 wr g2 g4 g6 cs vN vA vS all t as' us ws N) {k : Nat} {m : List Bool} (hk : all[k]? = some m) : ∃ gS c gm, vS = .slice (some ⟨gS, 0, none⟩) all.length c ∧ wr.cell? ⟨gS, k, none⟩ = some (.slice (some ⟨gm, 0, none⟩) m.length m.length) ∧ Marks wr wr.heap.size (.slice (some ⟨gm, 0, none⟩) m.length m.length) m := by
 obtain ⟨u, hu, g, e, h2, h3, h4⟩ := F2.at h.setR hk
 obtain ⟨gS, c, e1, e2⟩ := own_get h.sets hu
 exact ⟨gS, c, g, e1, by rw [e2, e], g, h3.lt, rfl, h3⟩
theorem SbM.row {v : Value} {n : Nat} {xs : List Value} (h : SbM w0 wr g2 g4 g6 cs vN vA vS all t as' us ws N) (hr : wr.ownsRow w0.heap.size 3 1 v n xs) (hN : ∀ g, N g → v.ownBlock ≠ some g) (hk : Kept wr w' (fun k => v.ownBlock = some k)) : SbM w0 w' g2 g4 g6 cs vN vA vS all t as' us ws N := by
 have hty : ∀ {e : TypeId}, e ≠ 3 → ∀ g cs, v.ownBlock = some g → ¬ Blk wr g e cs := fun h1 g cs e1 hB => own_blk_ne hr hB (fun hh => h1 hh.symm) e1
 exact ⟨h.below.trans (hk.below h.below.size fun b hb e => by have := own_base hr e; omega), h.b2.kept hk fun x => hty (by decide) _ _ x h.b2, h.b4.kept hk fun x => hty (by decide) _ _ x h.b4, h.b6.kept hk fun x => hty (by decide) _ _ x h.b6,
  own_ty hk h.sets (hty (by decide)), h.setR.imp fun _ _ hs => hs.kept hk (fun g cs x hB _ => hty (by decide) g cs x hB) (fun _ _ x => x), own_ty hk h.acc (hty (by decide)), own_ty hk h.nxt (hty (by decide)), h.nxtR.keep hk (fun g cs hn x _ => hN g hn x) (fun _ _ x => x) (Nat.le_refl _), h.ne, h.ge⟩
theorem SbM.addS {m : List Bool} {u vS' : Value} (h : SbM w0 wr g2 g4 g6 cs vN vA vS all t as' us ws N) (hu : SetAt wr w0.heap.size vA u m) (hk : Kept wr w' (fun k => vS.ownBlock = some k)) (ho : w'.ownsRow w0.heap.size 70 1 vS' (all.length + 1) (us ++ [u])) :
  SbM w0 w' g2 g4 g6 cs vN vA vS' (all ++ [m]) t as' (us ++ [u]) ws N := by
 have hty : ∀ {e : TypeId}, e ≠ 70 → ∀ g cs, vS.ownBlock = some g → ¬ Blk wr g e cs := fun h1 g cs e1 hB => own_blk_ne h.sets hB (fun hh => h1 hh.symm) e1
 have hset : ∀ {u m}, SetAt wr w0.heap.size vA u m → SetAt w' w0.heap.size vA u m := fun hs => hs.kept hk (fun g cs x hB _ => hty (by decide) g cs x hB) (fun _ _ x => x)
 refine ⟨h.below.trans (hk.below h.below.size fun b hb e => by have := own_base h.sets e; omega), h.b2.kept hk fun x => hty (by decide) _ _ x h.b2, h.b4.kept hk fun x => hty (by decide) _ _ x h.b4, h.b6.kept hk fun x => hty (by decide) _ _ x h.b6,
  by rw [List.length_append]; exact ho, F2.snoc (h.setR.imp fun _ _ hs => hset hs) (hset hu), own_ty hk h.acc (hty (by decide)), own_ty hk h.nxt (hty (by decide)), h.nxtR.keep hk (fun g cs _ x => hty (by decide) g cs x) (fun _ _ x => x) (Nat.le_refl _), h.ne, h.ge⟩
theorem SbM.addR {row : List Nat} {v vN' : Value} {w1 : World} (h : SbM w0 wr g2 g4 g6 cs vN vA vS all t as' us ws N) (hr : wr.ownsRow w0.heap.size 3 1 v row.length ((natL row).map (Value.int .i64)))
  (hk1 : Kept wr w1 (fun k => vN.ownBlock = some k)) (ho : w1.ownsRow w0.heap.size 22 1 vN' (t.length + 1) (ws ++ [v])) :
  SbM w0 (w1.setCell ⟨g6, 0, none⟩ vN') g2 g4 g6 cs vN' vA vS all (t ++ [row]) as' us (ws ++ [v]) (fun _ => True) := by
 have n6 := h.b6.kept hk1 (own_blk_ne h.nxt h.b6 (by decide))
 have hk2 := (Kept.refl w1 (fun k => k = g6)).setCell (p := ⟨g6, 0, none⟩) (fun _ => rfl) vN'
 have hall : Kept wr (w1.setCell ⟨g6, 0, none⟩ vN') (fun k => vN.ownBlock = some k ∨ k = g6) := (hk1.mono fun _ _ e => .inl e).trans hk2 fun _ _ e => .inr e
 have hty : ∀ {e : TypeId}, e ≠ 22 → e ≠ 95 → ∀ g cs, (vN.ownBlock = some g ∨ g = g6) → ¬ Blk wr g e cs := by
  rintro e h1 h2 g cs (e1 | e1) hB
  ·exact own_blk_ne h.nxt hB (fun hh => h1 hh.symm) e1
  ·exact hB.ne_ h.b6 h2 e1
 refine ⟨h.below.trans (hall.below h.below.size ?_), h.b2.kept hall fun x => hty (by decide) (by decide) _ _ x h.b2, h.b4.kept hall ?_, n6.set_ 0 vN', own_ty hall h.sets (hty (by decide) (by decide)), h.setR.imp fun _ _ hs => hs.kept hall (fun g cs x hB _ => hty (by decide) (by decide) g cs x hB) (fun _ _ x => x), own_ty hall h.acc (hty (by decide) (by decide)), ?_, ?_, h.ne, h.ge⟩
 ·rintro b hb (e | e)
  ·have := own_base h.nxt e; omega
  ·have := h.ge; omega
 ·rintro (e | e)
  ·exact own_blk_ne h.nxt h.b4 (by decide) e
  ·exact h.ne e
 ·rw [List.length_append]
  exact own_ty hk2 ho (fun g cs e hB => by subst e; exact hB.ne_ n6 (by decide) rfl)
 ·rw [List.map_append]
  refine RowsI.snoc (h.nxtR.keep hall (fun g cs _ e => hty (by decide) (by decide) g cs e) (fun _ _ _ => trivial) (Nat.le_refl _)) ?_ (fun _ _ => trivial)
  have := own_ty hall hr (hty (by decide) (by decide))
  have el : (natL row).length = row.length := by simp [natL]
  rw [el]
  exact this
theorem SbM.addA {b : Bool} {vA' : Value} {w1 : World} (h : SbM w0 wr g2 g4 g6 cs vN vA vS all t as' us ws N) (hk1 : Kept wr w1 (fun k => vA.ownBlock = some k)) (ho : w1.ownsRow w0.heap.size 4 1 vA' (as'.length + 1) (as'.map Value.bool ++ [.bool b])) (hmv : Moved wr vA vA') :
  SbM w0 (w1.setCell ⟨g6, 1, none⟩ vA') g2 g4 g6 cs vN vA' vS all t (as' ++ [b]) us ws N := by
 have n6 := h.b6.kept hk1 (own_blk_ne h.acc h.b6 (by decide))
 have hk2 := (Kept.refl w1 (fun k => k = g6)).setCell (p := ⟨g6, 1, none⟩) (fun _ => rfl) vA'
 have hall : Kept wr (w1.setCell ⟨g6, 1, none⟩ vA') (fun k => vA.ownBlock = some k ∨ k = g6) := (hk1.mono fun _ _ e => .inl e).trans hk2 fun _ _ e => .inr e
 have hty : ∀ {e : TypeId}, e ≠ 4 → e ≠ 95 → ∀ g cs, (vA.ownBlock = some g ∨ g = g6) → ¬ Blk wr g e cs := by
  rintro e h1 h2 g cs (e1 | e1) hB
  ·exact own_blk_ne h.acc hB (fun hh => h1 hh.symm) e1
  ·exact hB.ne_ h.b6 h2 e1
 refine ⟨h.below.trans (hall.below h.below.size ?_), h.b2.kept hall fun x => hty (by decide) (by decide) _ _ x h.b2, h.b4.kept hall ?_, n6.set_ 1 vA', own_ty hall h.sets (hty (by decide) (by decide)), h.setR.imp fun _ _ hs => hs.kept hall ?_ ?_, ?_, own_ty hall h.nxt (hty (by decide) (by decide)), h.nxtR.keep hall (fun g cs _ e => hty (by decide) (by decide) g cs e) (fun _ _ x => x) (Nat.le_refl _), h.ne, h.ge⟩
 ·rintro b hb (e | e)
  ·have := own_base h.acc e; omega
  ·have := h.ge; omega
 ·rintro (e | e)
  ·exact own_blk_ne h.acc h.b4 (by decide) e
  ·exact h.ne e
 ·rintro g cs (e | e) hB hne
  ·exact hne e
  ·exact hB.ne_ h.b6 (by decide) e
 ·intro g hg hne e
  rcases hmv with hh | ⟨g', hh, hlt⟩
  ·exact hne (by rw [← hh]; exact e)
  ·rw [e] at hh
   have := Option.some.inj hh
   omega
 ·rw [List.length_append, List.map_append]
  exact own_ty hk2 ho (fun g cs e hB => by subst e; exact hB.ne_ n6 (by decide) rfl)
theorem SbM.fin {wF : World} (h : SbM w0 wr g2 g4 g6 cs vN vA vS all t as' us ws N) (hk : Kept wr wF (fun k => k = g4 ∨ k < w0.heap.size)) : OwnDF wF w0.heap.size (.agg #[vN, vA]) t as' := by
 have hge := h.ge
 have hx : ∀ {e : TypeId} {v : Value} {n : Nat} {xs : List Value}, e ≠ 95 → wr.ownsRow w0.heap.size e 1 v n xs → wF.ownsRow w0.heap.size e 1 v n xs := fun he ho => hk.ownsRow ho fun g hg e => by
  rcases e with e | e
  ·exact own_blk_ne ho h.b4 he (by rw [hg, e])
  ·have := own_base ho hg; omega
 exact ⟨vN, vA, ws, rfl, hx (by decide) h.acc, hx (by decide) h.nxt, h.nxtR.imp fun v d hh => ⟨hx (by decide) hh.1, fun _ _ => trivial⟩⟩
end
theorem sb_k {w0 w : World} {g2 g4 g6 S cS : Nat} {cs : Array Value} {vN vA vT : Value} {AS : Option Addr} {all : List (List Bool)} {t : List (List Nat)} {as' : List Bool} {us ws : List Value} {N : Nat → Prop} {m : List Bool}
  (hM : SbM w0 w g2 g4 g6 cs vN vA (.slice AS all.length cS) all t as' us ws N) (hT : Marks w w.heap.size vT m) (hS : S ≤ 200000) (hl : ∀ x ∈ all, x.length = S) (hm : m.length = S) (hal : all.length ≤ 200000)
  {u0 u1 u2 u3 u4 u5 u6 u8 u9 u10 u13 u14 u15 u16 u17 u18 u19 u20 u21 u22 u23 u24 u25 u26 u27 u28 u29 u30 u31 u32 u33 u34 u35 u36 u37 u38 u39 u40 u41 u42 u43 u44 u45 u46 u47 u48 u49 u50 u51 u52 u53 u54 u55 u56 u57 u58 u59 u60 u61 u62 u63 u64 u65 u66 u67 u68 u69 u70 u71 u72 u73 u74 u75 u76 u77 u78 u79 u80 u81 u82 u83 u84 u85 u86 u87 u88 u89 u90 u91 u92 u93 u94 u95 u96 u97 u98 u99 u100 : Value}
  {Q : Exit → Act → World → Prop}
  (hQ : ∀ (x47 x48 x49 x50 x51 x52 x53 x54 x55 x56 x57 x58 x59 x60 x61 : Value) (w' : World) (k : Nat), Below w.heap.size w w' → k ≤ all.length → (∀ p, p < k → all[p]? ≠ some m) → (∀ x, all[k]? = some x → x = m) →
   Q (.exit 4) ⟨List.toArray (u0 :: u1 :: u2 :: u3 :: u4 :: u5 :: u6 :: (.slice AS all.length cS) :: u8 :: u9 :: u10 :: vT :: (.int .i64 k) :: u13 :: u14 :: u15 :: u16 :: u17 :: u18 :: u19 :: u20 :: u21 :: u22 :: u23 :: u24 :: u25 :: u26 :: u27 :: u28 :: u29 :: u30 :: u31 :: u32 :: u33 ::
   u34 :: u35 :: u36 :: u37 :: u38 :: u39 :: u40 :: u41 :: u42 :: u43 :: u44 :: u45 :: u46 :: x47 :: x48 :: x49 :: x50 :: x51 :: x52 :: x53 :: x54 :: x55 :: x56 :: x57 :: x58 :: x59 :: x60 :: x61 :: u62 :: u63 :: u64 :: u65 :: u66 :: u67 :: u68 :: u69 :: u70 ::
   u71 :: u72 :: u73 :: u74 :: u75 :: u76 :: u77 :: u78 :: u79 :: u80 :: u81 :: u82 :: u83 :: u84 :: u85 :: u86 :: u87 :: u88 :: u89 :: u90 :: u91 :: u92 :: u93 :: u94 :: u95 :: u96 :: u97 :: u98 :: u99 :: u100 :: []), []⟩ w') :
  (Code.loop (loopBody Tryd.f86 2)).wp Tryd.prog Q ⟨List.toArray (u0 :: u1 :: u2 :: u3 :: u4 :: u5 :: u6 :: (.slice AS all.length cS) :: u8 :: u9 :: u10 :: vT :: (.int .i64 0) :: u13 :: u14 :: u15 :: u16 :: u17 :: u18 :: u19 :: u20 :: u21 :: u22 :: u23 :: u24 :: u25 :: u26 :: u27 :: u28 :: u29 :: u30 :: u31 :: u32 :: u33 ::
   u34 :: u35 :: u36 :: u37 :: u38 :: u39 :: u40 :: u41 :: u42 :: u43 :: u44 :: u45 :: u46 :: u47 :: u48 :: u49 :: u50 :: u51 :: u52 :: u53 :: u54 :: u55 :: u56 :: u57 :: u58 :: u59 :: u60 :: u61 :: u62 :: u63 :: u64 :: u65 :: u66 :: u67 :: u68 :: u69 :: u70 ::
   u71 :: u72 :: u73 :: u74 :: u75 :: u76 :: u77 :: u78 :: u79 :: u80 :: u81 :: u82 :: u83 :: u84 :: u85 :: u86 :: u87 :: u88 :: u89 :: u90 :: u91 :: u92 :: u93 :: u94 :: u95 :: u96 :: u97 :: u98 :: u99 :: u100 :: []), []⟩ w := by
 conv => arg 2; arg 1; whnf
 have hMH := hide hM
 have hTH := hide hT
 obtain ⟨gT, hgT, rfl, hBT⟩ := hT
 have hlH := hide hl
 have hmH := hide hm
 obtain ⟨n, hn⟩ : ∃ n, n = all.length := ⟨_, rfl⟩
 have hnH := hide hn
 rw [hm] at hTH ⊢
 simp only [hm] at hQ
 rw [← hn] at hal ⊢
 simp only [← hn] at hQ
 clear hM hl hm hn hBT hgT
 go_loopw [12] (fun kk wr => ∃ (k : Nat), kk = .int .i64 (k : Int) ∧ k ≤ n ∧ Below w.heap.size w wr ∧ Hid (∀ p, p < k → all[p]? ≠ some m)) (fun kk _ => n - (intOf kk).toNat)
 case atStart => exact ⟨0, rfl, Nat.zero_le _, Below.refl _ _, fun p h => absurd h (by omega)⟩
 case round =>
  obtain ⟨k, rfl, hk, hBr, hE⟩ := hrel
  by_cases hlt : k < n
  ·obtain ⟨x, hx⟩ := get_lt (l := all) (i := k) (by rw [← hnH.out]; exact hlt)
   obtain ⟨gS, c, gm, e1, e2, e3⟩ := (hMH.out.keep hBr).at hx
   injection e1 with e1 e11 e12
   subst e1 e12
   have hxl := hlH.out x (List.mem_of_getElem? hx)
   rw [hxl] at e2 e3
   have hcall := sameMarks_any e3 (hTH.out.keep hBr hBr.size) hxl hmH.out (by omega)
   have hBrH := hide hBr
   have hxH := hide hx
   clear hBr hx e3 e11 hxl
   by_cases e : x = m
   ·rw [decide_eq_true e] at hcall
    have heH := hide e
    clear e
    go_wp2_with (go_at_call 73; refine Calls.ret hcall ?_; rintro r w4 ⟨rfl, hb4⟩; have hb44 := hide (hBrH.out.trans (hb4.mono hBrH.out.size)); clear hb4)
    refine hQ _ _ _ _ _ _ _ _ _ _ _ _ _ _ _ w4 k hb44.out hk hE.out (fun y hy => ?_)
    rw [hxH.out] at hy
    exact (Option.some.inj hy).symm.trans heH.out
   ·rw [decide_eq_false e] at hcall
    have heH := hide e
    clear e
    go_wp2_with (go_at_call 73; refine Calls.ret hcall ?_; rintro r w4 ⟨rfl, hb4⟩; have hb44 := hide (hBrH.out.trans (hb4.mono hBrH.out.size)); clear hb4)
    refine ⟨⟨k + 1, by go_num, by omega, hb44.out, fun p hp => ?_⟩, by simp [intOf]; omega⟩
    by_cases e2 : p = k
    ·subst e2
     rw [hxH.out]
     exact fun h => heH.out (Option.some.inj h)
    ·exact hE.out p (by omega)
  ·obtain rfl : k = n := by omega
   have hBrH := hide hBr
   clear hBr
   go_wp2_with fail
   refine hQ _ _ _ _ _ _ _ _ _ _ _ _ _ _ _ wr k hBrH.out (Nat.le_refl _) hE.out (fun y hy => ?_)
   have := lt_of_get hy
   have := hnH.out
   omega
end Go.Proofs.YtpmceapjnnkhjaaDoor
namespace Go.Proofs.YtpmceapjnnkhjaaDoor
open Go.RowKit
set_option maxHeartbeats 16000000
set_option maxRecDepth 100000
theorem fillC_zero {L : Nat} {row : List Nat} (h : row.length < L) : fillC L (row ++ [0]) = fillC L row := by
 have h1 := fillC_set h 0
 rw [← h1]
 apply Array.ext_getElem?
 intro j
 rw [Array.getElem?_setIfInBounds]
 by_cases e : row.length = j
 ·subst e
  rw [if_pos rfl, fillC_get h]
  have : row.length < (fillC L row).size := by simp [fillC]; omega
  rw [if_pos this]
  rfl
 ·rw [if_neg e]
structure ClX (w : World) (g3 L n gc : Nat) (vN vA : Value) (t : List (List Nat)) (ac : List Bool) (cl : List Nat) : Prop where
 t : TabF w L n vN vA t ac
 b : Blk w g3 95 #[vN, vA]
 c : Blk w gc 3 (fillC n cl)
 len : cl.length = n
theorem ClX.at {w w' : World} {g3 L n gc : Nat} {vN vA : Value} {t : List (List Nat)} {ac : List Bool} {cl : List Nat} (h : ClX w g3 L n gc vN vA t ac cl) (hb : Below w.heap.size w w') : ClX w' g3 L n gc vN vA t ac cl :=
 ⟨h.t.below hb, h.b.below hb, h.c.below hb, h.len⟩
theorem ClX.alike {w : World} {g3 L n gc c a b : Nat} {vN vA : Value} {t : List (List Nat)} {ac : List Bool} {cl : List Nat} (h : ClX w g3 L n gc vN vA t ac cl) (hn : n ≤ 300000) (hL : L ≤ 8) (ha : a < n) (hb : b < n) :
  Calls Tryd.prog 109 #[.agg #[vN, vA], .slice (some ⟨gc, 0, none⟩) n c, .int .i64 (L : Int), .int .i64 (a : Int), .int .i64 (b : Int)] w (Ret fun v w' => (∃ r : Bool, v = .bool r ∧ (r = true ↔ AlikeW L (dnx t) cl a b)) ∧ Below w.heap.size w w') :=
 alike_any h.t (NumsAt.of_blk h.c h.len) ha hb hn hL
theorem cl_k {wB w : World} {base g3 L n gc cc cf i : Nat} {A : Option Addr} {vN vA : Value} {t : List (List Nat)} {ac : List Bool} {cl F : List Nat} (hX : ClX wB g3 L n gc vN vA t ac cl) (hn : n ≤ 300000) (hL : L ≤ 8) (hi : i < n)
    (hB : Below wB.heap.size wB w) (hF : w.ownsRow base 3 1 (.slice A F.length cf) F.length (F.map encN)) (hFn : ∀ f ∈ F, f < n) (hFl : F.length ≤ 300000)
    {u0 u2 u4 u5 u6 u7 u9 u10 u11 u15 u16 u17 u18 u19 u20 u21 u22 u23 u24 u25 u26 u27 u28 u29 u30 u31 u32 u33 u34 u35 u36 u37 u38 u39 u40 u41 u42 u43 u44 u45 u46 u47 u48 u49 u50 u51 u52 u53 u54 u55 u56 u57 u58 u59 u60 u61 u62 u63 u64 u65 u66 u67 u68 u69 u70 u71 u72 u73 u74 u75 u76 u77 u78 u79 u80 u81 u82 u83 u84 u85 u86 : Value}
    {Q : Exit → Act → World → Prop} (hN : Reg.NoQ Q)
    (hQ : ∀ (x49 x50 x51 x52 x53 x54 x55 x56 x57 x58 x59 x60 x61 x62 x63 x64 x65 x66 : Value) (w' : World) (k : Nat), Below w.heap.size w w' → k ≤ F.length → (∀ p f, p < k → F[p]? = some f → ¬ AlikeW L (dnx t) cl f i) → (∀ f, F[k]? = some f → AlikeW L (dnx t) cl f i) →
      Q (.exit 6) ⟨List.toArray (u0 :: (.int .i64 L) :: u2 :: (.pointer (some ⟨g3, 0, none⟩)) :: u4 :: u5 :: u6 :: u7 :: (.slice (some ⟨gc, 0, none⟩) n cc) :: u9 :: u10 :: u11 :: (.slice A F.length cf) :: (.int .i64 i) :: (.int .i64 k) :: u15 :: u16 :: u17 :: u18 :: u19 :: u20 :: u21 :: u22 ::
      u23 :: u24 :: u25 :: u26 :: u27 :: u28 :: u29 :: u30 :: u31 :: u32 :: u33 :: u34 :: u35 :: u36 :: u37 :: u38 :: u39 :: u40 :: u41 :: u42 :: u43 :: u44 :: u45 :: u46 :: u47 :: u48 :: x49 :: x50 :: x51 :: x52 :: x53 :: x54 :: x55 :: x56 :: x57 :: x58 :: x59 ::
      x60 :: x61 :: x62 :: x63 :: x64 :: x65 :: x66 :: u67 :: u68 :: u69 :: u70 :: u71 :: u72 :: u73 :: u74 :: u75 :: u76 :: u77 :: u78 :: u79 :: u80 :: u81 :: u82 :: u83 :: u84 :: u85 :: u86 :: []), []⟩ w') :
    (Code.loop (loopBody Tryd.f95 3)).wp Tryd.prog Q ⟨List.toArray (u0 :: (.int .i64 L) :: u2 :: (.pointer (some ⟨g3, 0, none⟩)) :: u4 :: u5 :: u6 :: u7 :: (.slice (some ⟨gc, 0, none⟩) n cc) :: u9 :: u10 :: u11 :: (.slice A F.length cf) :: (.int .i64 i) :: (.int .i64 0) :: u15 :: u16 :: u17 :: u18 :: u19 :: u20 :: u21 :: u22 ::
      u23 :: u24 :: u25 :: u26 :: u27 :: u28 :: u29 :: u30 :: u31 :: u32 :: u33 :: u34 :: u35 :: u36 :: u37 :: u38 :: u39 :: u40 :: u41 :: u42 :: u43 :: u44 :: u45 :: u46 :: u47 :: u48 :: u49 :: u50 :: u51 :: u52 :: u53 :: u54 :: u55 :: u56 :: u57 :: u58 :: u59 ::
      u60 :: u61 :: u62 :: u63 :: u64 :: u65 :: u66 :: u67 :: u68 :: u69 :: u70 :: u71 :: u72 :: u73 :: u74 :: u75 :: u76 :: u77 :: u78 :: u79 :: u80 :: u81 :: u82 :: u83 :: u84 :: u85 :: u86 :: []), []⟩ w := by
  conv => arg 2; arg 1; whnf
  go_loopw [14] (fun kk wr => ∃ (k : Nat), kk = .int .i64 (k : Int) ∧ k ≤ F.length ∧ Below w.heap.size w wr ∧ Hid (∀ (p f : Nat), p < k → F[p]? = some f → ¬ AlikeW L (dnx t) cl f i)) (fun kk _ => F.length - (intOf kk).toNat)
  case atStart => exact ⟨0, rfl, Nat.zero_le _, Below.refl _ _, fun p f h => absurd h (by omega)⟩
  case round =>
    obtain ⟨k, rfl, hk, hBr, hE⟩ := hrel
    have hBB := hide (hB.trans (hBr.mono hB.size))
    have hc2 := (hX.at hBB.out).b.cell
    have hBrH := hide hBr
    have hst := hide (hBr.trans ((drewB wr).mono hBr.size))
    obtain ⟨vs, hvs⟩ : ∃ vs : Nat, vs = 0 := ⟨_, rfl⟩
    obtain ⟨bA, oA, cA, hvA, -⟩ := hX.t.mark
    obtain ⟨bN, oN, cN, hvN, -⟩ := hX.t.at
    by_cases hlt : k < F.length
    · obtain ⟨f, hf⟩ := get_lt hlt
      have hfn := hFn f (List.mem_of_getElem? hf)
      obtain ⟨gf, cf', hv, hcf⟩ := own_get ((Kept.of_below hBr (fun _ => False)).ownsRow hF (fun _ _ => id)) (map_get (f := encN) hf)
      injection hv with hv hv2 hv3
      subst hv hv3
      simp only [encN] at hcf
      have hfH := hide hf
      have hXd := hide (hX.at (hBB.out.trans ((drewB wr).mono hBB.out.size)))
      subst hvA hvN
      clear hf hBr hv2 hvs
      go_wp2_with fail
      refine Reg.cP [0, 0, 2, 7, 15, 31, 31, 31, 31, 31, 799, 1823, 31, 8191, 16383, 32767] ?_ (by kernel_rfl) (by repeat (first | exact hN | refine Reg.NoQ.then ?_ | refine Reg.NoQ.inBlock ?_))
      go_wp2_with (go_at_call 109; refine Calls.ret (hXd.out.alike hn hL hfn hi) ?_; rintro r w4 ⟨⟨b, rfl, hb⟩, hb4⟩; have hbH := hide hb; have hb44 := hide (hst.out.trans (hb4.mono hst.out.size)); clear hb hb4; cases b)
      · exact ⟨⟨k + 1, by go_num, by omega, hb44.out, fun p g hp hg => by
          by_cases e : p = k
          · subst e
            rw [hfH.out] at hg
            injection hg with hg
            subst hg
            exact fun h => by have := hbH.out.2 h; cases this
          · exact hE.out p g (by omega) hg⟩, by simp [intOf]; omega⟩
      · exact hQ _ _ _ _ _ _ _ _ _ _ _ _ _ _ _ _ _ _ w4 k hb44.out hk hE.out (fun g hg => by
          rw [hfH.out] at hg
          injection hg with hg
          subst hg
          exact hbH.out.1 (by trivial))
    · obtain rfl : k = F.length := by omega
      subst hvA hvN
      clear hvs
      go_wp2_with fail
      refine Reg.cP [0, 0, 2, 7, 15, 31, 31, 31, 31, 31, 799, 1823, 31, 8191, 16383, 32767] ?_ (by kernel_rfl) (by repeat (first | exact hN | refine Reg.NoQ.then ?_ | refine Reg.NoQ.inBlock ?_))
      go_wp2_with fail
      exact hQ _ _ _ _ _ _ _ _ _ _ _ _ _ _ _ _ _ _ _ F.length hst.out (Nat.le_refl _) hE.out (fun f hf => by have := lt_of_get hf; omega)
structure ClRd (wB wr : World) (E : Nat → Nat → Prop) (n gn i : Nat) (vf : Value) (F nx : List Nat) : Prop where
 below : Below wB.heap.size wB wr
 next : Blk wr gn 3 (fillC n nx)
 first : wr.ownsRow (gn + 1) 3 1 vf F.length (F.map encN)
 hgn : wB.heap.size ≤ gn
 rep : Hid (RepS E i F nx)
theorem ClRd.call {wB wr w4 : World} {E : Nat → Nat → Prop} {n gn i : Nat} {vf : Value} {F nx : List Nat} (h : ClRd wB wr E n gn i vf F nx) (hb : Below wr.heap.size wr w4) : ClRd wB w4 E n gn i vf F nx :=
 ⟨h.below.trans (hb.mono h.below.size), h.next.below hb, (Kept.of_below hb (fun _ => False)).ownsRow h.first (fun _ _ => id), h.hgn, h.rep⟩
theorem AlikeW.refl {L : Nat} {nx : Nat → Nat → Nat} {cl : List Nat} (i : Nat) : AlikeW L nx cl i i := ⟨rfl, fun _ _ => rfl⟩
theorem cl_i {wB w : World} {g3 L n gc cc gn : Nat} {vN vA : Value} {t : List (List Nat)} {ac : List Bool} {cl : List Nat} (hX : ClX wB g3 L n gc vN vA t ac cl) (hn : n ≤ 300000) (hL : L ≤ 8)
    (hI : ClRd wB w (AlikeW L (dnx t) cl) n gn 0 (.slice none 0 0) [] [])
    {u0 u2 u4 u5 u6 u9 u10 u14 u15 u16 u17 u18 u19 u20 u21 u22 u23 u24 u25 u26 u27 u28 u29 u30 u31 u32 u33 u34 u35 u36 u37 u38 u39 u40 u41 u42 u43 u44 u45 u46 u47 u48 u49 u50 u51 u52 u53 u54 u55 u56 u57 u58 u59 u60 u61 u62 u63 u64 u65 u66 u67 u68 u69 u70 u71 u72 u73 u74 u75 u76 u77 u78 u79 u80 u81 u82 u83 u84 u85 u86 : Value}
    {Q : Exit → Act → World → Prop} (hN : Reg.NoQ Q)
    (hQ : ∀ (x12 x13 x14 x44 x45 x46 x47 x48 x49 x50 x51 x52 x53 x54 x55 x56 x57 x58 x59 x60 x61 x62 x63 x64 x65 x66 x67 x68 x69 x70 x71 x72 x73 x74 x75 x76 x77 x78 : Value) (w' : World) (vf : Value) (F nx : List Nat), ClRd wB w' (AlikeW L (dnx t) cl) n gn n vf F nx →
      Q (.exit 4) ⟨List.toArray (u0 :: (.int .i64 L) :: u2 :: (.pointer (some ⟨g3, 0, none⟩)) :: u4 :: u5 :: u6 :: (.int .i64 n) :: (.slice (some ⟨gc, 0, none⟩) n cc) :: u9 :: u10 :: (.slice (some ⟨gn, 0, none⟩) n n) :: x12 :: x13 :: x14 :: u15 :: u16 :: u17 :: u18 :: u19 :: u20 :: u21 :: u22 ::
      u23 :: u24 :: u25 :: u26 :: u27 :: u28 :: u29 :: u30 :: u31 :: u32 :: u33 :: u34 :: u35 :: u36 :: u37 :: u38 :: u39 :: u40 :: u41 :: u42 :: u43 :: x44 :: x45 :: x46 :: x47 :: x48 :: x49 :: x50 :: x51 :: x52 :: x53 :: x54 :: x55 :: x56 :: x57 :: x58 :: x59 ::
      x60 :: x61 :: x62 :: x63 :: x64 :: x65 :: x66 :: x67 :: x68 :: x69 :: x70 :: x71 :: x72 :: x73 :: x74 :: x75 :: x76 :: x77 :: x78 :: u79 :: u80 :: u81 :: u82 :: u83 :: u84 :: u85 :: u86 :: []), []⟩ w') :
    (Code.loop (loopBody Tryd.f95 2)).wp Tryd.prog Q ⟨List.toArray (u0 :: (.int .i64 L) :: u2 :: (.pointer (some ⟨g3, 0, none⟩)) :: u4 :: u5 :: u6 :: (.int .i64 n) :: (.slice (some ⟨gc, 0, none⟩) n cc) :: u9 :: u10 :: (.slice (some ⟨gn, 0, none⟩) n n) :: (.slice none 0 0) :: (.int .i64 0) :: u14 :: u15 :: u16 :: u17 :: u18 ::
      u19 :: u20 :: u21 :: u22 :: u23 :: u24 :: u25 :: u26 :: u27 :: u28 :: u29 :: u30 :: u31 :: u32 :: u33 :: u34 :: u35 :: u36 :: u37 :: u38 :: u39 :: u40 :: u41 :: u42 :: u43 :: u44 :: u45 :: u46 :: u47 :: u48 :: u49 :: u50 :: u51 :: u52 :: u53 :: u54 :: u55 ::
      u56 :: u57 :: u58 :: u59 :: u60 :: u61 :: u62 :: u63 :: u64 :: u65 :: u66 :: u67 :: u68 :: u69 :: u70 :: u71 :: u72 :: u73 :: u74 :: u75 :: u76 :: u77 :: u78 :: u79 :: u80 :: u81 :: u82 :: u83 :: u84 :: u85 :: u86 :: []), []⟩ w := by
  conv => arg 2; arg 1; whnf
  go_loopw [12, 13] (fun ff ii wr => ∃ (i : Nat) (F nx : List Nat), ii = .int .i64 (i : Int) ∧ i ≤ n ∧ ClRd wB wr (AlikeW L (dnx t) cl) n gn i ff F nx) (fun _ ii _ => n - (intOf ii).toNat)
  case atStart => exact ⟨0, [], [], rfl, Nat.zero_le _, hI⟩
  case round =>
    obtain ⟨i, F, nx, rfl, hi, hR⟩ := hrel
    obtain ⟨A, cf, rfl⟩ := slice_of_own hR.first
    have hRH := hide hR
    have hFl := hR.rep.out.le
    clear hR
    by_cases hlt : i < n
    · have hFn := hide (fun (f : Nat) (hf : f ∈ F) => show f < n from by
        obtain ⟨p, hp⟩ := List.mem_iff_getElem?.1 hf
        have := (hRH.out.rep.out.src p f hp).1
        omega)
      go_wp2_with fail
      refine cl_k hX hn hL hlt hRH.out.below hRH.out.first hFn.out (by omega) ?_ ?_
      · repeat (first | exact hN | refine Reg.NoQ.then ?_ | refine Reg.NoQ.inBlock ?_)
      · iterate 18 (intro _)
        intro w3 k hb3 hk hno hyes
        have hR3 := hide (hRH.out.call hb3)
        have hnxl := hR3.out.rep.out.len
        have hnH := hide hno
        have hyH := hide hyes
        have hfg := hR3.out.next.frozen i
        have hlg := hR3.out.next.lt
        have hcg : w3.cell? ⟨gn, i, none⟩ = some (.int .i64 0) := by
          rw [hR3.out.next.cell, ← hnxl]
          exact fillC_get (by omega)
        have hnlH := hide hnxl
        clear hno hyes hnxl
        by_cases hkl : k < F.length
        · have hne : ((k : Int) == (F.length : Int)) = false := by simp; omega
          go_wp2_with fail
          obtain ⟨f, hf⟩ := get_lt hkl
          have hks : Kept w3 (w3.setCell ⟨gn, i, none⟩ (.int .i64 (k : Int))) (fun b => b = gn) := (Kept.refl w3 (fun b => b = gn)).setCell (p := ⟨gn, i, none⟩) (fun _ => rfl) _
          refine ⟨⟨i + 1, F, nx ++ [k], by go_num, by omega, ⟨?_, ?_, ?_, hR3.out.hgn, hR3.out.rep.out.old hf (hyH.out f hf)⟩⟩, by simp [intOf]; omega⟩
          · exact hR3.out.below.trans (hks.below hR3.out.below.size fun b hb e => by have := hR3.out.hgn; omega)
          · have := hR3.out.next.set_ i (.int .i64 (k : Int))
            rw [← hnlH.out, fillC_set (by have := hnlH.out; omega)] at this
            rw [← hnlH.out]
            exact this
          · exact hks.ownsRow hR3.out.first fun b hb e => by have := own_base hR3.out.first hb; omega
        · obtain rfl : k = F.length := by omega
          have heq : ((F.length : Int) == (F.length : Int)) = true := by simp
          have hf3 := hR3.out.first
          have hs3 := hlg
          clear hcg hfg hlg
          go_wp2_with (at_builtin; refine wpList_app_new row3 rfl _ _ rfl (gn + 1) (.slice A F.length cf) F.length _ rfl hf3 [.int .i64 (i : Int)] 1 rfl rfl (by simp [Value.oneCell']) (by omega) (by omega) ?_; intro g5 cap5 w5 hown5 hk5 hmv5 hg5
                       have hne5 : ¬ (Value.slice A F.length cf).ownBlock = some gn := fun e => by have := own_base hf3 e; omega
                       have hn5 := hR3.out.next.kept hk5 hne5
                       have hcg : w5.cell? ⟨gn, i, none⟩ = some (.int .i64 0) := (by rw [hn5.cell, ← hnlH.out]; exact fillC_get (by have := hnlH.out; omega))
                       have hfg := hn5.frozen i
                       have hlg := hn5.lt
                       have hnn5 := hide hn5
                       have hkk5 := hide hk5
                       have hoo5 := hide hown5
                       clear hn5 hk5 hown5 hmv5 hg5 hne5)
          have hks : Kept w5 (w5.setCell ⟨gn, i, none⟩ (.int .i64 (F.length : Int))) (fun b => b = gn) := (Kept.refl w5 (fun b => b = gn)).setCell (p := ⟨gn, i, none⟩) (fun _ => rfl) _
          refine ⟨⟨i + 1, F ++ [i], nx ++ [F.length], by go_num, by omega, ⟨?_, ?_, ?_, hR3.out.hgn, hR3.out.rep.out.new (AlikeW.refl i) fun p f hp => hnH.out p f (lt_of_get hp) hp⟩⟩, by simp [intOf]; omega⟩
          · have h1 := hR3.out.hgn
            have h2 := hR3.out.below.size
            exact (hR3.out.below.trans (hkk5.out.below h2 fun b hb e => by have := own_base hf3 e; omega)).trans (hks.below (by have := hkk5.out.size; omega) fun b hb e => by omega)
          · have := hnn5.out.set_ i (.int .i64 (F.length : Int))
            rw [← hnlH.out, fillC_set (by have := hnlH.out; omega)] at this
            rw [← hnlH.out]
            exact this
          · have := hks.ownsRow hoo5.out fun b hb e => by have := own_base hoo5.out hb; omega
            simpa [encN] using this
    · obtain rfl : i = n := by omega
      go_wp2_with fail
      exact hQ _ _ _ _ _ _ _ _ _ _ _ _ _ _ _ _ _ _ _ _ _ _ _ _ _ _ _ _ _ _ _ _ _ _ _ _ _ _ wr _ F nx hRH.out
end Go.Proofs.YtpmceapjnnkhjaaDoor
namespace Go.Proofs.YtpmceapjnnkhjaaDoor
open Go.RowKit
set_option maxHeartbeats 16000000
set_option maxRecDepth 100000
theorem cl_first {w0 w : World} {g3 L n gc : Nat} {vN vA : Value} {t : List (List Nat)} {ac : List Bool} (hT : TabF w0 L n vN vA t ac) (hb3 : Blk w0 g3 95 #[vN, vA]) (hn : n ≤ 300000)
  (hB : Below w0.heap.size w0 w) (hC : Blk w gc 3 (fillC n [])) (hgc : w0.heap.size ≤ gc)
  {u0 u1 u2 u4 u5 u6 u10 u11 u12 u13 u14 u15 u16 u17 u18 u19 u20 u21 u22 u23 u24 u25 u26 u27 u28 u29 u30 u31 u32 u33 u34 u35 u36 u37 u38 u39 u40 u41 u42 u43 u44 u45 u46 u47 u48 u49 u50 u51 u52 u53 u54 u55 u56 u57 u58 u59 u60 u61 u62 u63 u64 u65 u66 u67 u68 u69 u70 u71 u72 u73 u74 u75 u76 u77 u78 u79 u80 u81 u82 u83 u84 u85 u86 : Value}
  {Q : Exit → Act → World → Prop}
  (hQ : ∀ (x9 x20 x21 x22 x23 x24 x25 x26 x27 x28 x29 x30 x31 x32 : Value) (w' : World), Below w0.heap.size w0 w' → Blk w' gc 3 (fillC n (clsA ac)) →
   Q (.exit 0) ⟨List.toArray (u0 :: u1 :: u2 :: (.pointer (some ⟨g3, 0, none⟩)) :: u4 :: u5 :: u6 :: (.int .i64 n) :: (.slice (some ⟨gc, 0, none⟩) n n) :: x9 :: u10 :: u11 :: u12 :: u13 :: u14 :: u15 :: u16 :: u17 :: u18 :: u19 :: x20 :: x21 :: x22 :: x23 :: x24 :: x25 :: x26 :: x27 :: x28 ::
   x29 :: x30 :: x31 :: x32 :: u33 :: u34 :: u35 :: u36 :: u37 :: u38 :: u39 :: u40 :: u41 :: u42 :: u43 :: u44 :: u45 :: u46 :: u47 :: u48 :: u49 :: u50 :: u51 :: u52 :: u53 :: u54 :: u55 :: u56 :: u57 :: u58 :: u59 :: u60 :: u61 :: u62 :: u63 :: u64 :: u65 ::
   u66 :: u67 :: u68 :: u69 :: u70 :: u71 :: u72 :: u73 :: u74 :: u75 :: u76 :: u77 :: u78 :: u79 :: u80 :: u81 :: u82 :: u83 :: u84 :: u85 :: u86 :: []), []⟩ w') :
  (Code.loop (loopBody Tryd.f95 0)).wp Tryd.prog Q ⟨List.toArray (u0 :: u1 :: u2 :: (.pointer (some ⟨g3, 0, none⟩)) :: u4 :: u5 :: u6 :: (.int .i64 n) :: (.slice (some ⟨gc, 0, none⟩) n n) :: (.int .i64 0) :: u10 :: u11 :: u12 :: u13 :: u14 :: u15 :: u16 :: u17 :: u18 :: u19 :: u20 :: u21 :: u22 :: u23 :: u24 :: u25 :: u26 ::
   u27 :: u28 :: u29 :: u30 :: u31 :: u32 :: u33 :: u34 :: u35 :: u36 :: u37 :: u38 :: u39 :: u40 :: u41 :: u42 :: u43 :: u44 :: u45 :: u46 :: u47 :: u48 :: u49 :: u50 :: u51 :: u52 :: u53 :: u54 :: u55 :: u56 :: u57 :: u58 :: u59 :: u60 :: u61 :: u62 :: u63 ::
   u64 :: u65 :: u66 :: u67 :: u68 :: u69 :: u70 :: u71 :: u72 :: u73 :: u74 :: u75 :: u76 :: u77 :: u78 :: u79 :: u80 :: u81 :: u82 :: u83 :: u84 :: u85 :: u86 :: []), []⟩ w := by
 conv => arg 2; arg 1; whnf
 obtain ⟨bN, oN, cN, rfl, -⟩ := hT.at
 obtain ⟨bA, oA, cA, rfl, hbA, hac⟩ := hT.mark
 have haH := hide hac
 have hacn := hide hT.n
 clear hac hT
 go_loopw [9] (fun ii wr => ∃ (k : Nat) (row : List Nat), ii = .int .i64 (k : Int) ∧ k ≤ n ∧ Below w0.heap.size w0 wr ∧ Blk wr gc 3 (fillC n row) ∧ Hid (row = (clsA ac).take k) ∧ row.length ≤ k ∧ k ≤ row.length) (fun ii _ => n - (intOf ii).toNat)
 case atStart => exact ⟨0, [], rfl, Nat.zero_le _, hB, hC, by show _ = _; simp, by simp, by simp⟩
 case round =>
  obtain ⟨k, row, rfl, hk, hB', hou, hrow, hr1, hr2⟩ := hrel
  obtain rfl : k = row.length := by omega
  have hc2 := (hb3.below hB').cell
  by_cases hlt : row.length < n
  ·obtain ⟨b, hb⟩ := get_lt (l := ac) (i := row.length) (by rw [hacn.out]; exact hlt)
   have hca := (hB'.cell (p := ⟨bA, oA + row.length, none⟩) hbA).trans (haH.out row.length hlt)
   have hmb : dac ac row.length = b := getD_some hb
   rw [hmb] at hca
   have hnx := hide (map_get (f := fun b : Bool => if b = true then 1 else 0) hb)
   have hcg : wr.cell? ⟨gc, row.length, none⟩ = some (.int .i64 0) := by rw [hou.cell]; exact fillC_get hlt
   have hfg := hou.frozen row.length
   have hgl := hou.lt
   have hsn := hide (take_snoc hnx.out)
   clear hb hmb
   cases b
   ·go_wp2_with fail
    refine ⟨⟨row.length + 1, row ++ [0], by simp, by omega, hB', by rw [fillC_zero hlt]; exact hou, ?_, by simp, by simp⟩, by simp [intOf]; omega⟩
    show _ = _
    exact (congrArg (· ++ [0]) hrow.out).trans hsn.out.symm
   ·go_wp2_with fail
    have hou2 := hou.set_ row.length (.int .i64 (1 : Nat))
    rw [fillC_set hlt] at hou2
    refine ⟨⟨row.length + 1, row ++ [1], by simp, by omega, hB'.setCell (by simp; omega) _, hou2, ?_, by simp, by simp⟩, by simp [intOf]; omega⟩
    show _ = _
    exact (congrArg (· ++ [1]) hrow.out).trans hsn.out.symm
  ·have e : row.length = n := by omega
   have he := hide e
   clear e
   go_wp2_with fail
   refine hQ _ _ _ _ _ _ _ _ _ _ _ _ _ _ wr hB' ?_
   have h1 := hrow.out
   rw [List.take_of_length_le (by have := hacn.out; simp [clsA]; omega)] at h1
   rw [← h1]
   exact hou
theorem kinds_at {w : World} {g n c : Nat} {xs : List Nat} (hl : xs.length = n) (h : Blk w g 3 (fillC n xs)) (hc : n ≤ c) (hn : n ≤ 300000) :
  Calls Tryd.prog 110 #[.slice (some ⟨g, 0, none⟩) n c] w (Ret fun v w' => v = .int .i64 ((dd xs).length : Int) ∧ Below w.heap.size w w') := kinds_any (NumsAt.of_blk h hl) hc hn
theorem cl_rounds {w0 w : World} {g3 L n gc : Nat} {d : Int} {vN vA : Value} {t : List (List Nat)} {ac : List Bool} {cl : List Nat} (hX : ClX w g3 L n gc vN vA t ac cl) (hn : n ≤ 200000) (hn1 : 1 ≤ n) (hL : L ≤ 8)
  (hB : Below w0.heap.size w0 w) (hgc : w0.heap.size ≤ gc) (hC : ClsI L n (dnx t) (dac ac) 0 cl) (hle : ∀ i, i < n → cl.getD i 0 ≤ n) (hd : d < 0 ∨ 0 ≤ d)
  {u0 u4 u5 u6 u9 u11 u12 u13 u14 u15 u16 u17 u18 u19 u20 u21 u22 u23 u24 u25 u26 u27 u28 u29 u30 u31 u32 u33 u34 u35 u36 u37 u38 u39 u40 u41 u42 u43 u44 u45 u46 u47 u48 u49 u50 u51 u52 u53 u54 u55 u56 u57 u58 u59 u60 u61 u62 u63 u64 u65 u66 u67 u68 u69 u70 u71 u72 u73 u74 u75 u76 u77 u78 u79 u80 u81 u82 u83 u84 u85 u86 : Value}
  {Q : Exit → Act → World → Prop} (hN : Reg.NoQ Q)
  (hQ : ∀ (x6 x10 x11 x12 x13 x14 x33 x34 x35 x36 x37 x38 x39 x40 x41 x42 x43 x44 x45 x46 x47 x48 x49 x50 x51 x52 x53 x54 x55 x56 x57 x58 x59 x60 x61 x62 x63 x64 x65 x66 x67 x68 x69 x70 x71 x72 x73 x74 x75 x76 x77 x78 x79 x80 x81 x82 x83 x84 x85 : Value) (w' : World) (g : Nat) (cl' : List Nat), Below w0.heap.size w0 w' → w0.heap.size ≤ g → Blk w' g 3 (fillC n cl') → ClsR L n (dnx t) (dac ac) d cl' →
   Q (.exit 2) ⟨List.toArray (u0 :: (.int .i64 L) :: (.int .i64 d) :: (.pointer (some ⟨g3, 0, none⟩)) :: u4 :: u5 :: x6 :: (.int .i64 n) :: (.slice (some ⟨g, 0, none⟩) n n) :: u9 :: x10 :: x11 :: x12 :: x13 :: x14 :: u15 :: u16 :: u17 :: u18 :: u19 :: u20 :: u21 :: u22 :: u23 :: u24 :: u25 ::
   u26 :: u27 :: u28 :: u29 :: u30 :: u31 :: u32 :: x33 :: x34 :: x35 :: x36 :: x37 :: x38 :: x39 :: x40 :: x41 :: x42 :: x43 :: x44 :: x45 :: x46 :: x47 :: x48 :: x49 :: x50 :: x51 :: x52 :: x53 :: x54 :: x55 :: x56 :: x57 :: x58 :: x59 :: x60 :: x61 :: x62 ::
   x63 :: x64 :: x65 :: x66 :: x67 :: x68 :: x69 :: x70 :: x71 :: x72 :: x73 :: x74 :: x75 :: x76 :: x77 :: x78 :: x79 :: x80 :: x81 :: x82 :: x83 :: x84 :: x85 :: u86 :: []), []⟩ w')
  (hQr : ∀ (x8 x10 x11 x12 x13 x14 x33 x34 x35 x36 x37 x38 x39 x40 x41 x42 x43 x44 x45 x46 x47 x48 x49 x50 x51 x52 x53 x54 x55 x56 x57 x58 x59 x60 x61 x62 x63 x64 x65 x66 x67 x68 x69 x70 x71 x72 x73 x74 x75 x76 x77 x78 x79 x80 x81 x82 x83 x84 x85 : Value) (w' : World) (g : Nat) (cl' : List Nat), Below w0.heap.size w0 w' → w0.heap.size ≤ g → Blk w' g 3 (fillC n cl') → ClsR L n (dnx t) (dac ac) d cl' →
   Q .ret ⟨List.toArray (u0 :: (.int .i64 L) :: (.int .i64 d) :: (.pointer (some ⟨g3, 0, none⟩)) :: u4 :: u5 :: (.slice (some ⟨g, 0, none⟩) n n) :: (.int .i64 n) :: x8 :: u9 :: x10 :: x11 :: x12 :: x13 :: x14 :: u15 :: u16 :: u17 :: u18 :: u19 :: u20 :: u21 :: u22 :: u23 :: u24 :: u25 ::
   u26 :: u27 :: u28 :: u29 :: u30 :: u31 :: u32 :: x33 :: x34 :: x35 :: x36 :: x37 :: x38 :: x39 :: x40 :: x41 :: x42 :: x43 :: x44 :: x45 :: x46 :: x47 :: x48 :: x49 :: x50 :: x51 :: x52 :: x53 :: x54 :: x55 :: x56 :: x57 :: x58 :: x59 :: x60 :: x61 :: x62 ::
   x63 :: x64 :: x65 :: x66 :: x67 :: x68 :: x69 :: x70 :: x71 :: x72 :: x73 :: x74 :: x75 :: x76 :: x77 :: x78 :: x79 :: x80 :: x81 :: x82 :: x83 :: x84 :: x85 :: u86 :: []), []⟩ w') :
  (Code.loop (loopBody Tryd.f95 1)).wp Tryd.prog Q ⟨List.toArray (u0 :: (.int .i64 L) :: (.int .i64 d) :: (.pointer (some ⟨g3, 0, none⟩)) :: u4 :: u5 :: u6 :: (.int .i64 n) :: (.slice (some ⟨gc, 0, none⟩) n n) :: u9 :: (.int .i64 0) :: u11 :: u12 :: u13 :: u14 :: u15 :: u16 :: u17 :: u18 :: u19 :: u20 :: u21 :: u22 :: u23 ::
   u24 :: u25 :: u26 :: u27 :: u28 :: u29 :: u30 :: u31 :: u32 :: u33 :: u34 :: u35 :: u36 :: u37 :: u38 :: u39 :: u40 :: u41 :: u42 :: u43 :: u44 :: u45 :: u46 :: u47 :: u48 :: u49 :: u50 :: u51 :: u52 :: u53 :: u54 :: u55 :: u56 :: u57 :: u58 :: u59 :: u60 ::
   u61 :: u62 :: u63 :: u64 :: u65 :: u66 :: u67 :: u68 :: u69 :: u70 :: u71 :: u72 :: u73 :: u74 :: u75 :: u76 :: u77 :: u78 :: u79 :: u80 :: u81 :: u82 :: u83 :: u84 :: u85 :: u86 :: []), []⟩ w := by
 conv => arg 2; arg 1; whnf
 have hMH := hide (fun q x (hq : q < n) (hx : x < L) => show dnx t q x < n from by
  have := hX.t.ok.lt (q := q) (by have := hX.t.n; omega) hx
  have h2 := hX.t.n
  omega)
 go_loopw [8, 10] (fun vv rr wr => ∃ (r g : Nat) (l : List Nat), vv = .slice (some ⟨g, 0, none⟩) n n ∧ rr = .int .i64 (r : Int) ∧ ClX wr g3 L n g vN vA t ac l ∧ Below w0.heap.size w0 wr ∧ w0.heap.size ≤ g ∧
  Hid (ClsI L n (dnx t) (dac ac) r l) ∧ Hid (∀ i, i < n → l.getD i 0 ≤ n) ∧ (d < 0 ∨ (r : Int) ≤ d) ∧ r + 1 ≤ (dd l).length ∧ (dd l).length ≤ n) (fun _ rr _ => n - (intOf rr).toNat)
 case atStart =>
  have ha := hC.norm
  exact ⟨0, gc, cl, rfl, rfl, hX, hB, hgc, hC, hle, hd, by have := ha.val (i := 0) hn1; omega, ha.le⟩
 case round =>
  obtain ⟨r, g, l, rfl, rfl, hX', hB', hg', hCC, hll, hrd, hk1, hk2⟩ := hrel
  by_cases hcont : d < 0 ∨ (r : Int) < d
  ·obtain ⟨gn, w1, hmk, hR, hb1, hgn⟩ := mk_ints wr n (by omega)
   rw [fillC_nil] at hR
   have hI0 := hide (show ClRd wr w1 (AlikeW L (dnx t) l) n gn 0 (.slice none 0 0) [] [] from ⟨hb1, hR, own_nil, hgn, RepS.start _⟩)
   have hXH := hide hX'
   clear hR hb1 hX' hX
   have hor : d < 0 ∨ ¬ d < 0 ∧ (r : Int) < d := by omega
   have hrdH := hide hrd
   clear hcont hrd
   rcases hor with h1 | ⟨h1, h2⟩
   all_goals
    go_wp2_with fail
    refine cl_i hXH.out (by omega) hL hI0.out ?_ ?_
    ·repeat (first | exact hN | refine Reg.NoQ.then ?_ | refine Reg.NoQ.inBlock ?_)
    ·iterate 38 (intro _)
     intro w3 vf F nx hI3
     have hrep : RepS (EqW L (dnx t) (dac ac) (r + 1)) n F nx := by
      obtain ⟨q1, q2, q3, q4⟩ := hI3.rep.out
      have hF : ∀ (p f : Nat), F[p]? = some f → f < n := fun p f hp => (q4 p f hp).1
      refine ⟨q1, fun j v hj => ?_, fun p q f g' hpq hp hq => ?_, q4⟩
      ·obtain ⟨f, hf, he⟩ := q2 j v hj
       exact ⟨f, hf, (hCC.out.alike hMH.out (hF v f hf) (by have := lt_of_get hj; omega)).1 he⟩
      ·exact fun he => q3 p q f g' hpq hp hq ((hCC.out.alike hMH.out (hF p f hp) (hF q g' hq)).2 he)
     have hC3 := hide (hrep.cls (L := L) (nx := dnx t) (acc := dac ac) (r := r + 1) fun i j _ _ => Iff.rfl)
     have hIH := hide hI3
     have hnl := hide hrep.len
     have hx3 := hide (hXH.out.at hI3.below)
     have hs3 := hI3.below.size
     have hgrow := hide (hCC.out.grow hC3.out.1)
     have hval : Hid (∀ i, i < n → nx.getD i 0 ≤ n) := fun i hi => by
      have := hC3.out.2 i hi
      omega
     have hkn : (dd nx).length ≤ n := hC3.out.1.norm.le
     clear hrep hI3
     by_cases hke : (dd nx).length = (dd l).length
     ·have hkH := hide hke
      have hkb : (((dd nx).length : Int) == ((dd l).length : Int)) = true := by rw [hke]; simp
      clear hke
      generalize hk3 : (dd nx).length = K3 at *
      generalize hk4 : (dd l).length = K4 at *
      have hk33 := hide hk3
      have hk44 := hide hk4
      clear hk3 hk4
      go_wp2_with (go_at_call 110; first
       | (with_reducible refine Calls.ret (kinds_at hnl.out hIH.out.next (Nat.le_refl _) (by omega)) ?_; rintro v w4 ⟨rfl, hb4⟩; rw [hk33.out]; have hI4 := hide (hIH.out.call hb4); have hx4 := hide (hx3.out.at hb4); clear hb4)
       | (with_reducible refine Calls.ret (kinds_at hx4.out.len hx4.out.c (Nat.le_refl _) (by omega)) ?_; rintro v w5 ⟨rfl, hb5⟩; rw [hk44.out]; have hI5 := hide (hI4.out.call hb5); clear hb5))
      have e := hkH.out
      exact hQr _ _ _ _ _ _ _ _ _ _ _ _ _ _ _ _ _ _ _ _ _ _ _ _ _ _ _ _ _ _ _ _ _ _ _ _ _ _ _ _ _ _ _ _ _ _ _ _ _ _ _ _ _ _ _ _ _ _ _ w5 gn nx (hB'.trans (hI5.out.below.mono hB'.size)) (by have := hB'.size; omega) hI5.out.next (hCC.out.atRest hMH.out hC3.out.1 hC3.out.2 (by rw [hk33.out, hk44.out]; exact e) hrdH.out)
     ·have hgr : (dd l).length < (dd nx).length := by have := hgrow.out; omega
      have hkb : (((dd nx).length : Int) == ((dd l).length : Int)) = false := by simp; omega
      clear hke
      generalize hk3 : (dd nx).length = K3 at *
      generalize hk4 : (dd l).length = K4 at *
      have hk33 := hide hk3
      have hk44 := hide hk4
      clear hk3 hk4
      go_wp2_with (go_at_call 110; first
       | (with_reducible refine Calls.ret (kinds_at hnl.out hIH.out.next (Nat.le_refl _) (by omega)) ?_; rintro v w4 ⟨rfl, hb4⟩; rw [hk33.out]; have hI4 := hide (hIH.out.call hb4); have hx4 := hide (hx3.out.at hb4); clear hb4)
       | (with_reducible refine Calls.ret (kinds_at hx4.out.len hx4.out.c (Nat.le_refl _) (by omega)) ?_; rintro v w5 ⟨rfl, hb5⟩; rw [hk44.out]; have hI5 := hide (hI4.out.call hb5); have hx5 := hide (hx4.out.at hb5); clear hb5))
      refine ⟨⟨r + 1, gn, nx, rfl, by go_num, ⟨hx5.out.t, hx5.out.b, hI5.out.next, hnl.out⟩, hB'.trans (hI5.out.below.mono hB'.size), by have := hB'.size; omega, hC3.out.1, hval.out, by omega, by rw [hk33.out]; omega, by rw [hk33.out]; omega⟩, by simp [intOf]; omega⟩
  ·have h0 : ¬ d < 0 := by omega
   have e : (r : Int) = d := by omega
   have hcl := hide (hCC.out.atDepth hll.out e)
   have h1 : ¬ (r : Int) < d := by omega
   have hXH := hide hX'
   clear e hcont hX' hX hrd
   go_wp2_with fail
   exact hQ _ _ _ _ _ _ _ _ _ _ _ _ _ _ _ _ _ _ _ _ _ _ _ _ _ _ _ _ _ _ _ _ _ _ _ _ _ _ _ _ _ _ _ _ _ _ _ _ _ _ _ _ _ _ _ _ _ _ _ wr g l hB' hg' hXH.out.c hcl.out
theorem refclasses_any {w : World} {L n : Nat} {d : Int} {vN vA : Value} {t : List (List Nat)} {ac : List Bool} (hT : TabF w L n vN vA t ac) (hn : n ≤ 200000) (hL : L ≤ 8) :
  Calls Tryd.prog 95 #[.agg #[vN, vA], .int .i64 (L : Int), .int .i64 d] w (Ret fun v w' => Below w.heap.size w w' ∧ ∃ (g : Nat) (cl : List Nat), v = .slice (some ⟨g, 0, none⟩) n n ∧ w.heap.size ≤ g ∧ Blk w' g 3 (fillC n cl) ∧ ClsR L n (dnx t) (dac ac) d cl) := by
 obtain ⟨bN, oN, cN, rfl, -⟩ := hT.at
 obtain ⟨bA, oA, cA, rfl, -⟩ := hT.mark
 have hn1 : 1 ≤ n := by have := hT.ok.pos; have := hT.n; omega
 have hacn := hide hT.n
 obtain ⟨w1, hw1, hb1, hB1, hk1⟩ := box_blk w #[.slice (some ⟨bN, oN, none⟩) n cN, .slice (some ⟨bA, oA, none⟩) n cA] 95
 obtain ⟨gc, w2, hmk, hR, hb2, hgc⟩ := mk_ints w1 n (by omega)
 rw [fillC_nil] at hR
 have hsz1 := hb1.size
 have hsz2 := hb2.size
 have hT1 := hide (hT.below hb1)
 have hRH := hide hR
 have hb22 := hide hb2
 have hc1 := hB1.cell
 clear hT hR hb2
 go_enter Tryd.func95, Tryd.ntmps95
 go_wp2_with fail
 refine cl_first hT1.out hB1 (by omega) hb22.out hRH.out hgc ?_
 iterate 14 (intro _)
 intro w3 hb3 hC3
 have hX3 : ClX w3 w.heap.size L n gc (.slice (some ⟨bN, oN, none⟩) n cN) (.slice (some ⟨bA, oA, none⟩) n cA) t ac (clsA ac) := ⟨hT1.out.below hb3, hB1.below hb3, hC3, by rw [← hacn.out]; simp [clsA]⟩
 have hXH := hide hX3
 have hb33 := hide hb3
 clear hX3 hb3 hC3 hc1
 go_wp2_with fail
 refine cl_rounds hXH.out (by omega) hn1 hL hb33.out hgc (by rw [← hacn.out]; exact clsA_I ac) (fun i _ => Nat.le_trans (clsA_le ac i) hn1) (by omega) ?_ ?_ ?_
 ·repeat (first | exact Reg.NoQ.body (fun _ _ h => h) (fun _ h => h) | refine Reg.NoQ.then ?_ | refine Reg.NoQ.inBlock ?_)
 ·iterate 59 (intro _)
  intro w4 g cl4 hb4 hg hC4 hD4
  have hbH := hide hb4
  have hCH := hide hC4
  have hDH := hide hD4
  clear hb4 hC4 hD4
  go_wp2_with fail
  go_ret
  exact ⟨hb1.trans (hbH.out.mono hsz1), g, cl4, rfl, by omega, hCH.out, hDH.out⟩
 ·iterate 59 (intro _)
  intro w4 g cl4 hb4 hg hC4 hD4
  have hbH := hide hb4
  have hCH := hide hC4
  have hDH := hide hD4
  clear hb4 hC4 hD4
  go_wp2_with fail
  go_ret
  exact ⟨hb1.trans (hbH.out.mono hsz1), g, cl4, rfl, by omega, hCH.out, hDH.out⟩
end Go.Proofs.YtpmceapjnnkhjaaDoor
namespace Go.Proofs.YtpmceapjnnkhjaaDoor
open Go.RowKit
set_option maxHeartbeats 16000000
set_option maxRecDepth 100000
structure CnM (w0 wr : World) (g6 gs L : Nat) (vO vC vE : Value) (st : List Nat) (as' : List Int) (es : List Edg) : Prop where
 below : Below w0.heap.size w0 wr
 b6 : Blk wr g6 25 #[.int .i64 (L : Int), .int .i64 0, .slice (some ⟨gs, 0, none⟩) 1 1, vC, vE]
 start : Blk wr gs 3 #[.int .i64 0]
 ord : wr.ownsRow w0.heap.size 3 1 vO st.length ((natL st).map (Value.int .i64))
 acc : wr.ownsRow w0.heap.size 3 1 vC as'.length (as'.map (Value.int .i64))
 eds : wr.ownsRow w0.heap.size 35 3 vE es.length (es.flatMap eC)
 sepC : vC.ownBlock ≠ some gs
 sepO : vO.ownBlock ≠ some gs
 sep : ∀ g, vO.ownBlock = some g → vC.ownBlock ≠ some g
 ge : w0.heap.size ≤ g6 ∧ w0.heap.size ≤ gs
section
variable {w0 wr w' : World} {g6 gs L : Nat} {vO vC vE : Value} {st : List Nat} {as' : List Int} {es : List Edg}
theorem CnM.keep (h : CnM w0 wr g6 gs L vO vC vE st as' es) (hb : Below wr.heap.size wr w') : CnM w0 w' g6 gs L vO vC vE st as' es :=
 ⟨h.below.trans (hb.mono h.below.size), h.b6.below hb, h.start.below hb, own_below h.ord hb, own_below h.acc hb, own_below h.eds hb, h.sepC, h.sepO, h.sep, h.ge⟩
theorem moved_ne {v v' : Value} {g : Nat} (hmv : Moved wr v v') (hg : g < wr.heap.size) (h : v.ownBlock ≠ some g) : v'.ownBlock ≠ some g := fun e => by
 rcases hmv with hh | ⟨g', hh, hlt⟩
 ·exact h (by rw [← hh]; exact e)
 ·rw [e] at hh
  have := Option.some.inj hh
  omega
theorem CnM.addO {s : Nat} {vO' : Value} {w1 : World} (h : CnM w0 wr g6 gs L vO vC vE st as' es) (hk1 : Kept wr w1 (fun k => vO.ownBlock = some k)) (ho : w1.ownsRow w0.heap.size 3 1 vO' (st.length + 1) ((natL st).map (Value.int .i64) ++ [.int .i64 (s : Int)])) (hmv : Moved wr vO vO') :
  CnM w0 w1 g6 gs L vO' vC vE (st ++ [s]) as' es := by
 have hty : ∀ {e : TypeId}, e ≠ 3 → ∀ g cs, vO.ownBlock = some g → ¬ Blk wr g e cs := fun h1 g cs e1 hB => own_blk_ne h.ord hB (fun hh => h1 hh.symm) e1
 refine ⟨h.below.trans (hk1.below h.below.size fun b hb e => by have := own_base h.ord e; omega), h.b6.kept hk1 fun x => hty (by decide) _ _ x h.b6, h.start.kept hk1 h.sepO, ?_, hk1.ownsRow h.acc fun g hg e => h.sep g e hg, own_ty hk1 h.eds (hty (by decide)), h.sepC, moved_ne hmv h.start.lt h.sepO, fun g hg hg' => ?_, h.ge⟩
 ·rw [List.length_append, natL_snoc, List.map_append]
  exact ho
 ·exact moved_ne hmv (own_lt h.acc hg') (fun e => h.sep g e hg') hg
theorem CnM.addA {q : Int} {vC' : Value} {w1 : World} (h : CnM w0 wr g6 gs L vO vC vE st as' es) (hk1 : Kept wr w1 (fun k => vC.ownBlock = some k)) (ho : w1.ownsRow w0.heap.size 3 1 vC' (as'.length + 1) (as'.map (Value.int .i64) ++ [.int .i64 q])) (hmv : Moved wr vC vC') :
  CnM w0 (w1.setCell ⟨g6, 3, none⟩ vC') g6 gs L vO vC' vE st (as' ++ [q]) es := by
 have n6 := h.b6.kept hk1 (own_blk_ne h.acc h.b6 (by decide))
 have hk2 := (Kept.refl w1 (fun k => k = g6)).setCell (p := ⟨g6, 3, none⟩) (fun _ => rfl) vC'
 have hall : Kept wr (w1.setCell ⟨g6, 3, none⟩ vC') (fun k => vC.ownBlock = some k ∨ k = g6) := (hk1.mono fun _ _ e => .inl e).trans hk2 fun _ _ e => .inr e
 have hty : ∀ {e : TypeId}, e ≠ 3 → e ≠ 25 → ∀ g cs, (vC.ownBlock = some g ∨ g = g6) → ¬ Blk wr g e cs := by
  rintro e h1 h2 g cs (e1 | e1) hB
  ·exact own_blk_ne h.acc hB (fun hh => h1 hh.symm) e1
  ·exact hB.ne_ h.b6 h2 e1
 have h6o : ∀ g, vO.ownBlock = some g → g ≠ g6 := fun g hg e => own_blk_ne h.ord h.b6 (by decide) (by rw [hg, e])
 refine ⟨h.below.trans (hall.below h.below.size ?_), n6.set_ 3 vC', h.start.kept hall ?_, hall.ownsRow h.ord ?_, ?_, own_ty hall h.eds (hty (by decide) (by decide)), moved_ne hmv h.start.lt h.sepC, h.sepO, fun g hg hg' => ?_, h.ge⟩
 ·rintro b hb (e | e)
  ·have := own_base h.acc e; omega
  ·have := h.ge; omega
 ·rintro (e | e)
  ·exact h.sepC e
  ·exact h.start.ne_ h.b6 (by decide) e
 ·rintro g hg (e | e)
  ·exact h.sep g hg e
  ·exact h6o g hg e
 ·rw [List.length_append, List.map_append]
  exact own_ty hk2 ho (fun g cs e hB => by subst e; exact hB.ne_ n6 (by decide) rfl)
 ·exact moved_ne hmv (own_lt h.ord hg) (h.sep g hg) hg'
theorem CnM.addE {d : Edg} {vE' : Value} {w1 : World} (h : CnM w0 wr g6 gs L vO vC vE st as' es) (hk1 : Kept wr w1 (fun k => vE.ownBlock = some k)) (ho : w1.ownsRow w0.heap.size 35 3 vE' (es.length + 1) (es.flatMap eC ++ eC d)) :
  CnM w0 (w1.setCell ⟨g6, 4, none⟩ vE') g6 gs L vO vC vE' st as' (es ++ [d]) := by
 have n6 := h.b6.kept hk1 (own_blk_ne h.eds h.b6 (by decide))
 have hk2 := (Kept.refl w1 (fun k => k = g6)).setCell (p := ⟨g6, 4, none⟩) (fun _ => rfl) vE'
 have hall : Kept wr (w1.setCell ⟨g6, 4, none⟩ vE') (fun k => vE.ownBlock = some k ∨ k = g6) := (hk1.mono fun _ _ e => .inl e).trans hk2 fun _ _ e => .inr e
 have hty : ∀ {e : TypeId}, e ≠ 35 → e ≠ 25 → ∀ g cs, (vE.ownBlock = some g ∨ g = g6) → ¬ Blk wr g e cs := by
  rintro e h1 h2 g cs (e1 | e1) hB
  ·exact own_blk_ne h.eds hB (fun hh => h1 hh.symm) e1
  ·exact hB.ne_ h.b6 h2 e1
 refine ⟨h.below.trans (hall.below h.below.size ?_), n6.set_ 4 vE', h.start.kept hall fun x => hty (by decide) (by decide) _ _ x h.start, own_ty hall h.ord (hty (by decide) (by decide)), own_ty hall h.acc (hty (by decide) (by decide)), ?_, h.sepC, h.sepO, h.sep, h.ge⟩
 ·rintro b hb (e | e)
  ·have := own_base h.eds e; omega
  ·have := h.ge; omega
 ·rw [List.length_append, List.flatMap_append]
  refine own_ty hk2 ?_ (fun g cs e hB => by subst e; exact hB.ne_ n6 (by decide) rfl)
  simpa using ho
theorem CnM.fin {wF : World} {N : Nat} (h : CnM w0 wr g6 gs L vO vC vE st as' es) (hk : Kept wr wF (fun k => k = g6 ∨ k < w0.heap.size)) (ha : as'.length ≤ 4000000) (he : es.length ≤ 4000000) :
  IsWA wF wF.heap.size (.agg #[.int .i64 (L : Int), .int .i64 (N : Int), .slice (some ⟨gs, 0, none⟩) 1 1, vC, vE]) ⟨(L : Int), (N : Int), [0], as', es⟩ := by
 have hge := h.ge
 have hA := hk.ownsRow h.acc fun g hg e => by
  rcases e with e | e
  ·exact own_blk_ne h.acc h.b6 (by decide) (by rw [hg, e])
  ·have := own_base h.acc hg; omega
 have hE := hk.ownsRow h.eds fun g hg e => by
  rcases e with e | e
  ·exact own_blk_ne h.eds h.b6 (by decide) (by rw [hg, e])
  ·have := own_base h.eds hg; omega
 have hS := h.start.kept hk fun e => by
  rcases e with e | e
  ·exact h.start.ne_ h.b6 (by decide) e
  ·omega
 obtain ⟨A2, c2, e2, h2⟩ := own_slI (B := wF.heap.size) hA rfl (Nat.le_refl _) (by omega)
 obtain ⟨A3, c3, e3, h3⟩ := own_slE (B := wF.heap.size) hE rfl (Nat.le_refl _) (by omega)
 obtain ⟨A1, c1, e1, h1⟩ := own_slI (B := wF.heap.size) (l := [0]) (base := 0) (own_of_blk (n := 1) hS (Nat.zero_le _) rfl (by omega)) rfl (Nat.le_refl _) (by omega)
 injection e1 with e1 _ e4
 subst e1
 exact ⟨_, 1, A2, c2, A3, c3, by rw [e2, e3]; rfl, h1, h2, h3, Nat.le_refl _⟩
end
theorem can_k {wB w : World} {n gc co to base : Nat} {Ao : Option Addr} {cl st : List Nat} (hC : NumsAt wB gc n cl) (hB : Below wB.heap.size wB w) (hO : w.ownsRow base 3 1 (.slice Ao st.length co) st.length ((natL st).map (Value.int .i64))) (hst : ∀ s ∈ st, s < n) (hto : to < n) (hn : n ≤ 200000) (hl : st.length ≤ 200000)
  {u0 u1 u2 u3 u4 u6 u8 u9 u12 u13 u14 u15 u16 u17 u18 u19 u20 u21 u22 u23 u24 u25 u26 u27 u28 u29 u30 u31 u32 u33 u34 u35 u36 u37 u38 u39 u40 u41 u42 u43 u44 u45 u46 u47 u48 u49 u50 u51 u52 u53 u54 u55 u56 u57 u58 u59 u60 u61 u62 u63 u64 u65 u66 u67 u68 u69 u70 u71 u72 u73 u74 u75 u76 u77 u78 u79 u80 u81 u82 u83 u84 u85 u86 u87 u88 u89 u90 u91 u92 u93 u94 u95 : Value}
  {Q : Exit → Act → World → Prop}
  (hQ : ∀ (x55 x56 x57 x58 x59 x60 x61 x62 x63 x64 x65 x66 x67 x68 x69 x70 x71 x72 x73 x74 : Value) (w' : World) (k : Nat), Below w.heap.size w w' → k ≤ st.length → (∀ p s, p < k → st[p]? = some s → cl.getD s 0 ≠ cl.getD to 0) → (∀ s, st[k]? = some s → cl.getD s 0 = cl.getD to 0) →
   Q (.exit 4) ⟨List.toArray (u0 :: u1 :: u2 :: u3 :: u4 :: (.slice (some ⟨gc, 0, none⟩) n n) :: u6 :: (.slice Ao st.length co) :: u8 :: u9 :: (.int .i64 to) :: (.int .i64 k) :: u12 :: u13 :: u14 :: u15 :: u16 :: u17 :: u18 :: u19 :: u20 :: u21 :: u22 :: u23 :: u24 :: u25 :: u26 :: u27 ::
   u28 :: u29 :: u30 :: u31 :: u32 :: u33 :: u34 :: u35 :: u36 :: u37 :: u38 :: u39 :: u40 :: u41 :: u42 :: u43 :: u44 :: u45 :: u46 :: u47 :: u48 :: u49 :: u50 :: u51 :: u52 :: u53 :: u54 :: x55 :: x56 :: x57 :: x58 :: x59 :: x60 :: x61 :: x62 :: x63 :: x64 ::
   x65 :: x66 :: x67 :: x68 :: x69 :: x70 :: x71 :: x72 :: x73 :: x74 :: u75 :: u76 :: u77 :: u78 :: u79 :: u80 :: u81 :: u82 :: u83 :: u84 :: u85 :: u86 :: u87 :: u88 :: u89 :: u90 :: u91 :: u92 :: u93 :: u94 :: u95 :: []), []⟩ w') :
  (Code.loop (loopBody Tryd.f70 2)).wp Tryd.prog Q ⟨List.toArray (u0 :: u1 :: u2 :: u3 :: u4 :: (.slice (some ⟨gc, 0, none⟩) n n) :: u6 :: (.slice Ao st.length co) :: u8 :: u9 :: (.int .i64 to) :: (.int .i64 0) :: u12 :: u13 :: u14 :: u15 :: u16 :: u17 :: u18 :: u19 :: u20 :: u21 :: u22 :: u23 :: u24 :: u25 :: u26 :: u27 ::
   u28 :: u29 :: u30 :: u31 :: u32 :: u33 :: u34 :: u35 :: u36 :: u37 :: u38 :: u39 :: u40 :: u41 :: u42 :: u43 :: u44 :: u45 :: u46 :: u47 :: u48 :: u49 :: u50 :: u51 :: u52 :: u53 :: u54 :: u55 :: u56 :: u57 :: u58 :: u59 :: u60 :: u61 :: u62 :: u63 :: u64 ::
   u65 :: u66 :: u67 :: u68 :: u69 :: u70 :: u71 :: u72 :: u73 :: u74 :: u75 :: u76 :: u77 :: u78 :: u79 :: u80 :: u81 :: u82 :: u83 :: u84 :: u85 :: u86 :: u87 :: u88 :: u89 :: u90 :: u91 :: u92 :: u93 :: u94 :: u95 :: []), []⟩ w := by
 conv => arg 2; arg 1; whnf
 obtain ⟨z, hz⟩ := get_lt (l := cl) (i := to) (by rw [hC.1]; exact hto)
 have hzg : Hid (cl.getD to 0 = z) := getD_some hz
 have hCH := hide hC
 have hcz := hide (hC.2.2 to z hz)
 have hOH := hide hO
 obtain ⟨m, hm⟩ : ∃ m, m = st.length := ⟨_, rfl⟩
 have hmH := hide hm
 have hBB := hide hB
 rw [← hm] at hl ⊢
 simp only [← hm] at hQ
 clear hC hz hO hB hm
 go_loopw [11] (fun kk wr => ∃ (k : Nat), kk = .int .i64 (k : Int) ∧ k ≤ m ∧ Below w.heap.size w wr ∧ Hid (∀ (p s : Nat), p < k → st[p]? = some s → cl.getD s 0 ≠ cl.getD to 0)) (fun kk _ => m - (intOf kk).toNat)
 case atStart => exact ⟨0, rfl, Nat.zero_le _, Below.refl _ _, fun p f h => absurd h (by omega)⟩
 case round =>
  obtain ⟨k, rfl, hk, hBr, hE⟩ := hrel
  have hst2 := hide (fun M => hBr.trans (((Kept.refl wr (fun _ => False)).drewN M).below hBr.size (fun _ _ h => h.elim)))
  by_cases hlt : k < m
  ·obtain ⟨s, hs⟩ := get_lt (l := st) (i := k) (by rw [← hmH.out]; exact hlt)
   have hsn := hst s (List.mem_of_getElem? hs)
   obtain ⟨gf, cf', hv, hcf⟩ := own_get (own_below hOH.out hBr) (map_get (f := Value.int .i64) (map_get (f := fun x : Nat => (x : Int)) hs))
   injection hv with hv hv2 hv3
   subst hv hv3
   obtain ⟨y, hy⟩ := get_lt (l := cl) (i := s) (by rw [hCH.out.1]; exact hsn)
   have hall := hBB.out.trans (hBr.mono hBB.out.size)
   have hcs : wr.cell? ⟨gc, s, none⟩ = some (.int .i64 (y : Int)) := (hall.cell (p := ⟨gc, s, none⟩) hCH.out.2.1).trans (hCH.out.2.2 s y hy)
   have hct : wr.cell? ⟨gc, to, none⟩ = some (.int .i64 (z : Int)) := (hall.cell (p := ⟨gc, to, none⟩) hCH.out.2.1).trans hcz.out
   have hyg : Hid (cl.getD s 0 = y) := getD_some hy
   have hsH := hide hs
   clear hs hy hall hBr hv2
   by_cases hyz : y = z
   ·have hI : (y : Int) = (z : Int) := by omega
    have hyzH := hide hyz
    clear hyz
    go_wp2_with fail
    go_quiet (fail)
    go_wp2_with fail
    refine hQ _ _ _ _ _ _ _ _ _ _ _ _ _ _ _ _ _ _ _ _ _ k (hst2.out _) hk hE.out (fun s' hs' => ?_)
    rw [hsH.out] at hs'
    injection hs' with hs'
    subst hs'
    rw [hyg.out, hzg.out, hyzH.out]
   ·have hI : ¬ (y : Int) = (z : Int) := by omega
    have hyzH := hide hyz
    clear hyz
    go_wp2_with fail
    go_quiet (fail)
    go_wp2_with fail
    refine ⟨⟨k + 1, by go_num, by omega, hst2.out _, fun p s' hp hs' => ?_⟩, by simp [intOf]; omega⟩
    by_cases e : p = k
    ·subst e
     rw [hsH.out] at hs'
     injection hs' with hs'
     subst hs'
     rw [hyg.out, hzg.out]
     exact hyzH.out
    ·exact hE.out p s' (by omega) hs'
  ·obtain rfl : k = m := by omega
   clear hBr
   go_wp2_with fail
   go_quiet (fail)
   go_wp2_with fail
   refine hQ _ _ _ _ _ _ _ _ _ _ _ _ _ _ _ _ _ _ _ _ _ k (hst2.out _) (Nat.le_refl _) hE.out (fun s' hs' => ?_)
   have := lt_of_get hs'
   have := hmH.out
   omega
end Go.Proofs.YtpmceapjnnkhjaaDoor
namespace Go.Proofs.YtpmceapjnnkhjaaDoor
open Go.RowKit
set_option maxHeartbeats 16000000
set_option maxRecDepth 100000
theorem own_empty (w : World) (e : TypeId) (size : Nat) : (w.alloc (.cells #[] e)).ownsRow w.heap.size e size (.slice (some ⟨w.heap.size, 0, none⟩) 0 0) 0 [] :=
 ⟨by simp, .inr ⟨w.heap.size, 0, #[], rfl, Nat.le_refl _, heap_alloc_new w _, Nat.le_refl _, by unfold maxLen; omega, by simp, by simp⟩⟩
theorem news_of {D : Type} {w : World} {B sz b off : Nat} {enc : D → Nat → Value} {ds : List D} {xs : List Value} (hs : Sl w B sz enc (some ⟨b, off, none⟩) ds) (hne : ds ≠ []) (hz : 0 < sz) (hlen : xs.length = ds.length * sz)
  (hx : ∀ (k j : Nat) (d : D), ds[k]? = some d → j < sz → xs[k * sz + j]? = some (enc d j)) : ∀ (j : Nat) (u : Value), xs[j]? = some u → w.cell? ((⟨b, off, none⟩ : Addr).add j) = some u := by
 intro j u hu
 have hj := lt_of_get hu
 obtain ⟨b', o', e, hb', hall⟩ := hs.2 hne
 have e := Option.some.inj e
 injection e with e1 e2 _
 subst e1 e2
 have hk : j / sz < ds.length := Nat.div_lt_of_lt_mul (by rw [Nat.mul_comm, ← hlen]; exact hj)
 obtain ⟨d, hd⟩ := get_lt hk
 have hr := Nat.mod_lt j hz
 have hsum : j / sz * sz + j % sz = j := by rw [Nat.mul_comm]; exact Nat.div_add_mod j sz
 have h1 := hx (j / sz) (j % sz) d hd hr
 rw [hsum, hu] at h1
 have h2 := hall (j / sz) d hd (j % sz) hr
 rw [show off + j / sz * sz + j % sz = off + j from by omega] at h2
 have hadd : (⟨b, off, none⟩ : Addr).add j = ⟨b, off + j, none⟩ := by unfold Addr.add; split <;> simp_all
 rw [hadd, h2, ← Option.some.inj h1]
section
variable {P : Program} {ops : Array Oper} {rest : List Oper} {o : Oper} {a : Act} {Q : Exit → Act → World → Prop}
theorem wpList_copy {D : Type} {w : World} {t e sz B n c : Nat} {enc : D → Nat → Value} {ds : List D} {xs : List Value} {A : Option Addr} (R : RowTy P t e sz) (hgd : o.guard = none) (s x : Operand)
  (ho : o.op = .call { callee := .builtin .append, args := #[s, x], argTypes := #[t, t] }) (hs : a.eval s = .slice (some ⟨w.heap.size, 0, none⟩) 0 0) (hx : a.eval x = .slice A n c) (hn : n = ds.length)
  (hsl : Sl w B sz enc A ds) (hB : B ≤ w.heap.size) (hne : ds ≠ []) (hlen : xs.length = ds.length * sz) (hxs : ∀ (k j : Nat) (d : D), ds[k]? = some d → j < sz → xs[k * sz + j]? = some (enc d j)) (h1 : ∀ u ∈ xs, u.oneCell' = true) (hbig : ds.length ≤ 4000000)
  (h : ∀ g cap w', w'.ownsRow w.heap.size e sz (.slice (some ⟨g, 0, none⟩) n cap) n xs → Below w.heap.size w w' → g < w'.heap.size → wpList P ops Q rest (a.put o.dst (.slice (some ⟨g, 0, none⟩) n cap)) w') :
  wpList P ops Q (o :: rest) a (w.alloc (.cells #[] e)) := by
 obtain ⟨b, off, rfl, hb, -⟩ := hsl.2 hne
 subst hn
 have hb0 := (Below.refl w.heap.size w).alloc (Nat.le_refl _) (.cells #[] e)
 have hsl' : Sl (w.alloc (.cells #[] e)) B sz enc (some ⟨b, off, none⟩) ds := hsl.keep (fun p hp => World.cell?_alloc_lt w _ p (by omega)) (Nat.le_refl _)
 have hpos : 0 < ds.length := by cases ds; exact absurd rfl hne; simp
 refine wpList_app R hgd s x ho w.heap.size _ 0 [] hs (own_empty w e sz) ⟨b, off, none⟩ ds.length c xs hx hlen (news_of hsl' hne R.pos hlen hxs) h1 hpos (by omega) (by simp) ?_
 intro g cap w' hown hk hmv hg
 have e0 : 0 + ds.length = ds.length := Nat.zero_add _
 rw [e0, List.nil_append] at hown
 rw [e0]
 exact h g cap w' hown (hb0.trans (hk.below (by simp) (fun b' hb' e => by simp [Value.ownBlock] at e; omega))) hg
end
section
variable {ops : Array Oper} {rest : List Oper} {o : Oper} {a : Act} {Q : Exit → Act → World → Prop}
theorem wpList_zero {w : World} {c t : Nat} {g : Addr} {A : Option Addr} (ht : t = 22 ∨ t = 23) (hgd : o.guard = none) (s x : Operand)
  (ho : o.op = .call { callee := .builtin .append, args := #[s, x], argTypes := #[t, t] }) (hs : a.eval s = .slice (some g) 0 0) (hx : a.eval x = .slice A 0 c)
  (h : wpList Tryd.prog ops Q rest (a.put o.dst (.slice (some g) 0 0)) w) : wpList Tryd.prog ops Q (o :: rest) a w := by
 refine wpList_plain hgd fun K hK => ?_
 have e1 : ∀ w' : World, Sem.run Tryd.prog (pure (#[] : Array Value)) w' = .ok #[] w' := fun _ => rfl
 have e2 : ∀ (ad : Addr) (w' : World), Sem.run Tryd.prog (storeCells ad ([] : List Value)) w' = .ok () w' := fun _ _ => rfl
 have hk := hK _ _ h
 obtain ⟨dst, op, type, pos, after, guard⟩ := o
 dsimp only at ho hgd
 subst ho hgd
 unfold Oper.wp execOp
 rcases ht with rfl | rfl
 all_goals
  cases A
  all_goals
   simp only [resolve, invoke, builtin, Sem.run_bind, Sem.run_pure, Result.andThen_ok, List.map_toArray, List.map_cons, List.map_nil, hs, hx]
   go_simp
   exact hk
theorem wpList_cp {D : Type} {w : World} {B n c t e sz : Nat} {enc : D → Nat → Value} {ds : List D} {xs : List Value} {A : Option Addr} (R : RowTy Tryd.prog t e sz) (ht : t = 22 ∨ t = 23) (hgd : o.guard = none) (s x : Operand)
  (ho : o.op = .call { callee := .builtin .append, args := #[s, x], argTypes := #[t, t] }) (hs : a.eval s = .slice (some ⟨w.heap.size, 0, none⟩) 0 0) (hx : a.eval x = .slice A n c) (hn : n = ds.length)
  (hsl : Sl w B sz enc A ds) (hB : B ≤ w.heap.size) (hlen : xs.length = ds.length * sz) (hxs : ∀ (k j : Nat) (d : D), ds[k]? = some d → j < sz → xs[k * sz + j]? = some (enc d j)) (h1 : ∀ u ∈ xs, u.oneCell' = true) (hbig : ds.length ≤ 4000000)
  (h : ∀ g cap w', w'.ownsRow w.heap.size e sz (.slice (some ⟨g, 0, none⟩) n cap) n xs → Below w.heap.size w w' → g < w'.heap.size → wpList Tryd.prog ops Q rest (a.put o.dst (.slice (some ⟨g, 0, none⟩) n cap)) w') :
  wpList Tryd.prog ops Q (o :: rest) a (w.alloc (.cells #[] e)) := by
 by_cases hne : ds = []
 ·subst hne hn
  have hx0 : xs = [] := List.length_eq_zero_iff.1 (by simpa using hlen)
  subst hx0
  exact wpList_zero ht hgd s x ho hs hx (h _ _ _ (own_empty w e sz) ((Below.refl w.heap.size w).alloc (Nat.le_refl _) _) (by simp))
 ·exact wpList_copy R hgd s x ho hs hx hn hsl hB hne hlen hxs h1 hbig h
end
theorem ints_get (xs : List Int) : ∀ (k j : Nat) (d : Int), xs[k]? = some d → j < 1 → (xs.map (Value.int .i64))[k * 1 + j]? = some (encI d j) := fun k j d hd hj => by
 have hj0 : j = 0 := by omega
 subst hj0
 rw [Nat.mul_one, Nat.add_zero, List.getElem?_map, hd]
 rfl
theorem eC_len (l : List Edg) : (l.flatMap eC).length = l.length * 3 := by
 induction l with
 | nil => rfl
 | cons x l ih => rw [List.flatMap_cons, List.length_append, ih, List.length_cons, Nat.succ_mul]; simp [eC]; omega
theorem eC_one (l : List Edg) : ∀ u ∈ l.flatMap eC, u.oneCell' = true := by
 intro u hu
 obtain ⟨x, -, hx⟩ := List.mem_flatMap.1 hu
 simp [eC] at hx
 rcases hx with rfl | rfl | rfl <;> rfl
theorem copyInts_any {w : World} {B c n : Nat} {A : Option Addr} {xs : List Int} (h : Sl w B 1 encI A xs) (hB : B ≤ w.heap.size) (hl : n = xs.length) (hn : xs.length ≤ 4000000) :
  Calls Tryd.prog 51 #[.slice A n c] w (Ret fun r w' => Below w.heap.size w w' ∧ w'.ownsRow w.heap.size 3 1 r n (xs.map (Value.int .i64))) := by
 have hH := hide h
 have hlH := hide hl
 clear h hl
 go_enter Tryd.func51, Tryd.ntmps51
 go_wp2_with (at_builtin; refine wpList_cp (w := w) (xs := xs.map (Value.int .i64)) row3 (.inl rfl) rfl _ _ rfl rfl rfl hlH.out hH.out hB (by simp) (ints_get xs) (by simp [Value.oneCell']) hn ?_; intro g cap w' hown hb hg; have hoH := hide hown; have hbH := hide hb; clear hown hb)
 go_ret
 exact ⟨hbH.out, hoH.out⟩
theorem own_cap {w : World} {base e size n c : Nat} {A : Option Addr} {xs : List Value} (h : w.ownsRow base e size (.slice A n c) n xs) : n ≤ c := by
 rcases h.2 with ⟨h0, hn⟩ | ⟨g, cap, cur, hv, hb, hh, hc, _⟩
 ·omega
 ·injection hv with _ _ h3
  omega
theorem copyAutomaton_any {v : Value} {a : WA} {w : World} (h : IsWA w w.heap.size v a) (hs : a.start.length ≤ 4000000) (ha : a.accept.length ≤ 4000000) (he : a.edges.length ≤ 4000000) :
    Calls Tryd.prog 22 #[v] w (Ret fun r w' => Below w.heap.size w w' ∧ IsWA w' w'.heap.size r a) := by
  obtain ⟨A1, c1, A2, c2, A3, c3, rfl, h1, h2, h3, -⟩ := h
  obtain ⟨w1, hw1, hb1, hB1, hk1⟩ := box_blk w #[.int .i64 a.letters, .int .i64 a.states, .slice A1 a.start.length c1, .slice A2 a.accept.length c2, .slice A3 a.edges.length c3] 25
  obtain ⟨w2, hw2, hb2, hB2, hk2⟩ := box_blk w1 zero25 25
  obtain ⟨w3, hw3, hb3, hB3, hk3⟩ := box_blk w2 #[.int .i64 a.letters, .int .i64 a.states, .slice A1 a.start.length c1, .slice A2 a.accept.length c2, .slice A3 a.edges.length c3] 25
  have l1 := hB1.lt
  have l2 := hB2.lt
  have l3 := hB3.lt
  have s1 := hb1.size
  have s2 := hb2.size
  have s3 := hb3.size
  have b03 := hide (hb1.trans ((hb2.mono s1).trans (hb3.mono (by omega))))
  have hBa3 := hide ((hB1.below hb2).below hb3)
  have hBr3 := hide (hB2.below hb3)
  have hBo3 := hide hB3
  have f1 := hBa3.out.cell
  have f0 := (hB1.below hb2).cell
  have hcall := copyInts_any (c := c1) (h1.keep (w' := w3) (fun p hp => b03.out.cell hp) b03.out.size) (Nat.le_refl _) rfl hs
  have h2H := hide h2
  have h3H := hide h3
  clear hb1 hB1 hk1 hb2 hB2 hk2 hb3 hB3 hk3 h1 h2 h3
  go_enter Tryd.func22, Tryd.ntmps22
  go_wp2_with fail
  refine Calls.ret hcall ?_
  rintro r4 w4 ⟨hb4, ho4⟩
  obtain ⟨P4, p4, rfl⟩ := slice_of_own ho4
  have b04 := b03.out.trans (hb4.mono b03.out.size)
  have hBa4 := hBa3.out.below hb4
  have hBr4 := hBr3.out.below hb4
  have hBo4 := hBo3.out.below hb4
  obtain ⟨w5, hw5⟩ : ∃ w5, w4.setCell ⟨w2.heap.size, 2, none⟩ (.slice P4 a.start.length p4) = w5 := ⟨_, rfl⟩
  have hk5 : Kept w4 w5 (fun k => k = w2.heap.size) := hw5 ▸ (Kept.refl w4 (fun k => k = w2.heap.size)).setCell (p := ⟨w2.heap.size, 2, none⟩) (fun _ => rfl) _
  have hBo5 : Blk w5 w2.heap.size 25 #[.int .i64 a.letters, .int .i64 a.states, .slice P4 a.start.length p4, .slice A2 a.accept.length c2, .slice A3 a.edges.length c3] := by
    have := hBo4.set_ 2 (.slice P4 a.start.length p4)
    rw [hw5] at this
    simpa using this
  have s4 := hb4.size
  have s04 := b04.size
  have hsa := hide (own_ty hk5 ho4 (fun g cs e hB => by subst e; exact hB.ne_ hBo4 (by decide) rfl))
  have b05 := hide (b04.trans (hk5.below s04 fun b hb e => by omega))
  have hBa5 := hide (hBa4.kept hk5 (by omega))
  have hBr5 := hide (hBr4.kept hk5 (by omega))
  have g1 := hBo4.frozen
  have g2 := hBo4.lt
  have g3 := hBo4.cell
  have g4 := hBa5.out.cell
  have hcall2 := copyInts_any (c := c2) (h2H.out.keep (w' := w5) (fun p hp => b05.out.cell hp) b05.out.size) (Nat.le_refl _) rfl ha
  have hBo5H := hide hBo5
  have s5 := hk5.size
  clear hcall hb4 ho4 b04 hBa4 hBr4 hBo4 hBo5 hk5 f1 f0
  go_wp2_with fail
  refine Calls.ret hcall2 ?_
  rintro r6 w6 ⟨hb6, ho6⟩
  obtain ⟨P6, p6, rfl⟩ := slice_of_own ho6
  have b06 := b05.out.trans (hb6.mono b05.out.size)
  have hBa6 := hBa5.out.below hb6
  have hBr6 := hBr5.out.below hb6
  have hBo6 := hBo5H.out.below hb6
  have hsa6 := own_below hsa.out hb6
  obtain ⟨w7, hw7⟩ : ∃ w7, w6.setCell ⟨w2.heap.size, 3, none⟩ (.slice P6 a.accept.length p6) = w7 := ⟨_, rfl⟩
  have hk7 : Kept w6 w7 (fun k => k = w2.heap.size) := hw7 ▸ (Kept.refl w6 (fun k => k = w2.heap.size)).setCell (p := ⟨w2.heap.size, 3, none⟩) (fun _ => rfl) _
  have hBo7 : Blk w7 w2.heap.size 25 #[.int .i64 a.letters, .int .i64 a.states, .slice P4 a.start.length p4, .slice P6 a.accept.length p6, .slice A3 a.edges.length c3] := by
    have := hBo6.set_ 3 (.slice P6 a.accept.length p6)
    rw [hw7] at this
    simpa using this
  have s6 := hb6.size
  have s06 := b06.size
  have hsa7 := hide (own_ty hk7 hsa6 (fun g cs e hB => by subst e; exact hB.ne_ hBo6 (by decide) rfl))
  have hac7 := hide (own_ty hk7 ho6 (fun g cs e hB => by subst e; exact hB.ne_ hBo6 (by decide) rfl))
  have b07 := hide (b06.trans (hk7.below s06 fun b hb e => by omega))
  have hBa7 := hide (hBa6.kept hk7 (by omega))
  have hBr7 := hide (hBr6.kept hk7 (by omega))
  have hBo7H := hide hBo7
  have i1 := hBo6.frozen
  have i2 := hBo6.lt
  have i3 := hBo6.cell
  have i4 := hBa7.out.cell
  have i5 := hBa7.out.lt
  have i6 := hBo7.lt
  have hsl := hide (h3H.out.keep (w' := w7) (fun p hp => b07.out.cell hp) (Nat.le_refl _))
  have s7 := b07.out.size
  have s67 := hk7.size
  clear hcall2 hb6 ho6 b06 hBa6 hBr6 hBo6 hBo7 hk7 hsa6 g1 g2 g3 g4
  go_wp2_with (
    at_builtin
    refine wpList_cp (w := w7) (xs := a.edges.flatMap eC) row35 (.inr rfl) rfl _ _ rfl rfl rfl rfl hsl.out s7 (eC_len _) (fun k j d hd hj => flat3_get hd hj) (eC_one _) he ?_
    intro g8 cap8 w8 ho8 hb8 hg8
    have hBo8 := hBo7H.out.below hb8
    have hBr8 := hBr7.out.below hb8
    have hsa8 := own_below hsa7.out hb8
    have hac8 := own_below hac7.out hb8
    obtain ⟨w9, hw9⟩ : ∃ w9, w8.setCell ⟨w2.heap.size, 4, none⟩ (.slice (some ⟨g8, 0, none⟩) a.edges.length cap8) = w9 := ⟨_, rfl⟩
    have hk9 : Kept w8 w9 (fun k => k = w2.heap.size) := hw9 ▸ (Kept.refl w8 (fun k => k = w2.heap.size)).setCell (p := ⟨w2.heap.size, 4, none⟩) (fun _ => rfl) _
    have hBo9 : Blk w9 w2.heap.size 25 #[.int .i64 a.letters, .int .i64 a.states, .slice P4 a.start.length p4, .slice P6 a.accept.length p6, .slice (some ⟨g8, 0, none⟩) a.edges.length cap8] := (by
      have := hBo8.set_ 4 (.slice (some ⟨g8, 0, none⟩) a.edges.length cap8)
      rw [hw9] at this
      simpa using this)
    have s8 := hb8.size
    have hsa9 := hide (own_ty hk9 hsa8 (fun g cs e hB => (by subst e; exact hB.ne_ hBo8 (by decide) rfl)))
    have hac9 := hide (own_ty hk9 hac8 (fun g cs e hB => (by subst e; exact hB.ne_ hBo8 (by decide) rfl)))
    have hed9 := hide (own_ty hk9 ho8 (fun g cs e hB => (by subst e; exact hB.ne_ hBo8 (by decide) rfl)))
    have b09 := hide ((b07.out.trans (hb8.mono s7)).trans (hk9.below (by omega) fun b hb e => (by omega)))
    have hBr9 := hide (hBr8.kept hk9 (by omega))
    have k1 := hBo8.frozen
    have k2 := hBo8.lt
    have k3 := hBo8.cell
    have k4 := hBo9.cell
    have k5 := hBr9.out.frozen
    have k6 := hBr9.out.lt
    have k7 := hBr9.out.cell
    clear ho8 hb8 hBo8 hBr8 hsa8 hac8 hBo9 hk9 i1 i2 i3 i4)
  obtain ⟨wF, hwF, hBF, hKF⟩ := set5_facts hBr9.out (.int .i64 a.letters) (.int .i64 a.states) (.slice P4 a.start.length p4) (.slice P6 a.accept.length p6) (.slice (some ⟨g8, 0, none⟩) a.edges.length cap8)
  have hBFc := hBF.cell
  have hbF : Below w.heap.size w wF := b09.out.trans (hKF.below b09.out.size fun b hb e => by omega)
  have t3 : ∀ {e : TypeId} {base n sz : Nat} {v : Value} {xs : List Value}, e ≠ 25 → w9.ownsRow base e sz v n xs → wF.ownsRow base e sz v n xs := fun he ho => own_ty hKF ho (fun g cs e hB => by subst e; exact hB.ne_ hBr9.out he rfl)
  have r1 := t3 (by decide) hsa9.out
  have r2 := t3 (by decide) hac9.out
  have r3 := t3 (by decide) hed9.out
  have q1 := own_cap r1
  obtain ⟨_, _, e1, y1⟩ := own_slI (B := wF.heap.size) r1 rfl (Nat.le_refl _) (by omega)
  obtain ⟨_, _, e2, y2⟩ := own_slI (B := wF.heap.size) r2 rfl (Nat.le_refl _) (by omega)
  obtain ⟨_, _, e3, y3⟩ := own_slE (B := wF.heap.size) r3 rfl (Nat.le_refl _) (by omega)
  injection e1 with e1 _ e1c
  injection e2 with e2 _ e2c
  injection e3 with e3 _ e3c
  subst e1 e2 e3
  first
  | (change bodyPost _ _ _ _ _ (set5 _ w1.heap.size (.int .i64 a.letters) (.int .i64 a.states) (.slice _ a.start.length p4) (.slice _ a.accept.length p6) (.slice (some ⟨g8, 0, none⟩) a.edges.length cap8))
     rw [hwF])
  | skip
  exact bodyPost_ret (v := .agg #[.int .i64 a.letters, .int .i64 a.states, .slice _ a.start.length p4, .slice _ a.accept.length p6, .slice (some ⟨g8, 0, none⟩) a.edges.length cap8]) (by simp [results, Tryd.results22, go_sem, hBFc]) rfl ⟨hbF, _, _, _, _, _, _, rfl, y1, y2, y3, q1⟩
end Go.Proofs.YtpmceapjnnkhjaaDoor
