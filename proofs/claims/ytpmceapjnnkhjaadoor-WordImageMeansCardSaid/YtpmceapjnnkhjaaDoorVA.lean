/-
  Part VA of a proof.
-/
import Derived.Test.YtpmceapjnnkhjaaDoorPA
import Derived.Test.YtpmceapjnnkhjaaDoorPB
import Derived.Test.YtpmceapjnnkhjaaDoorPN
set_option maxHeartbeats 16000000
set_option maxRecDepth 100000
set_option linter.unusedVariables false
set_option linter.unusedSimpArgs false
namespace Go.Proofs.YtpmceapjnnkhjaaDoor
def WA.bestE (a : WA) (far : List Int) (m : List Bool) (l : Int) (k : Nat) : Int :=
 (a.edges.take k).foldl (fun b e => if m.getD e.frm.toNat false = true ∧ far.getD e.to.toNat (-1) = l ∧ e.letter < b then e.letter else b) a.letters
theorem WA.bestE_zero (a : WA) (far : List Int) (m : List Bool) (l : Int) : a.bestE far m l 0 = a.letters := rfl
theorem WA.bestE_step {a : WA} {far : List Int} {m : List Bool} {l : Int} {k : Nat} {e : Edg} (h : a.edges[k]? = some e) :
  a.bestE far m l (k + 1) = if m.getD e.frm.toNat false = true ∧ far.getD e.to.toNat (-1) = l ∧ e.letter < a.bestE far m l k then e.letter else a.bestE far m l k := by
 unfold WA.bestE
 rw [List.take_add_one, h]
 simp only [Option.toList_some, List.foldl_append, List.foldl_cons, List.foldl_nil]
theorem best_fold {p : Edg → Bool} : ∀ (es : List Edg) (b : Int),
  let r := es.foldl (fun b e => if p e = true ∧ e.letter < b then e.letter else b) b
  r ≤ b ∧ (∀ e ∈ es, p e = true → r ≤ e.letter) ∧ (r = b ∨ ∃ e ∈ es, p e = true ∧ r = e.letter)
 | [], b => ⟨Int.le_refl _, fun e he => absurd he List.not_mem_nil, .inl rfl⟩
 | e :: es, b => by
  intro r
  have hr : r = es.foldl (fun b e => if p e = true ∧ e.letter < b then e.letter else b) (if p e = true ∧ e.letter < b then e.letter else b) := rfl
  obtain ⟨h1, h2, h3⟩ := best_fold (p := p) es (if p e = true ∧ e.letter < b then e.letter else b)
  rw [← hr] at h1 h2 h3
  by_cases hc : p e = true ∧ e.letter < b
  ·rw [if_pos hc] at h1 h3
   refine ⟨by omega, fun x hx hp => ?_, ?_⟩
   ·rcases List.mem_cons.1 hx with rfl | hx
    ·exact h1
    ·exact h2 x hx hp
   ·rcases h3 with h3 | ⟨x, hx, h3⟩
    ·exact .inr ⟨e, List.mem_cons_self, hc.1, h3⟩
    ·exact .inr ⟨x, List.mem_cons_of_mem _ hx, h3⟩
  ·rw [if_neg hc] at h1 h3
   refine ⟨h1, fun x hx hp => ?_, ?_⟩
   ·rcases List.mem_cons.1 hx with rfl | hx
    ·have : ¬ x.letter < b := fun hl => hc ⟨hp, hl⟩
     omega
    ·exact h2 x hx hp
   ·rcases h3 with h3 | ⟨x, hx, h3⟩
    ·exact .inl h3
    ·exact .inr ⟨x, List.mem_cons_of_mem _ hx, h3⟩
theorem WA.bestE_pick {a : WA} (h : a.In) {far : List Int} {m : List Bool} {k x j : Nat} (hp : a.nf.pick far m k = some x) (hj : a.edges.length ≤ j) : a.bestE far m (k : Int) j = (x : Int) := by
 have hpk := List.find?_some hp
 have hxL : x < a.L := List.mem_range.1 (List.mem_of_find?_eq_some hp)
 have hfirst : ∀ y, y < x → someM (cutM far (a.nf.after m y) k) = false := fun y hy => by
  have := List.find?_eq_some_iff_append.1 hp
  obtain ⟨_, as1, bs, hab, hall⟩ := this
  have hys : y ∈ as1 := by
   have hlen : as1.length = x := by
    have h1 : (List.range a.nf.L)[as1.length]? = some x := by rw [hab]; simp
    rw [List.getElem?_eq_some_iff] at h1
    obtain ⟨h2, h3⟩ := h1
    simpa using h3
   have h1 : (List.range a.nf.L)[y]? = some y := by
    rw [List.getElem?_range]
    have : a.nf.L = a.L := rfl
    omega
   rw [hab, List.getElem?_append_left (by omega)] at h1
   exact List.mem_of_getElem? h1
  simpa using hall y hys
 have hcond : ∀ y, y < a.L → (someM (cutM far (a.nf.after m y) k) = true ↔ ∃ e ∈ a.edges, m.getD e.frm.toNat false = true ∧ far.getD e.to.toNat (-1) = (k : Int) ∧ e.letter = (y : Int)) := fun y hy => by
  rw [some_iff]
  constructor
  ·rintro ⟨q, hq, h1⟩
   obtain ⟨h2, h3⟩ := cutM_get.1 h1
   have hqn : q < a.nf.n := by simpa [cutM, NF.after_len] using hq
   obtain ⟨s, hs, h4, h5⟩ := (NF.after_get hqn).1 h2
   rw [a.nf_to (by rw [← a.nf_n]; exact hs) hy] at h5
   obtain ⟨e, he, h6, h7, h8⟩ := WA.mem_to.1 h5
   exact ⟨e, he, by rw [h6]; simpa using h4, by rw [h8]; simpa using h3, h7⟩
  ·rintro ⟨e, he, h1, h2, h3⟩
   obtain ⟨i1, i2, i3⟩ := h.edge e he
   obtain ⟨f, hf, hfn⟩ := inN_nat i1
   obtain ⟨t, ht, htn⟩ := inN_nat i3
   have htn' : t < a.nf.n := by rw [a.nf_n]; exact htn
   refine ⟨t, by simpa [cutM, NF.after_len] using htn', cutM_get.2 ⟨(NF.after_get htn').2 ⟨f, by rw [a.nf_n]; exact hfn, by rw [hf] at h1; simpa using h1, ?_⟩, by rw [ht] at h2; simpa using h2⟩⟩
   rw [a.nf_to hfn hy]
   exact WA.mem_to.2 ⟨e, he, hf, h3, ht⟩
 obtain ⟨b1, b2, b3⟩ := best_fold (p := fun e => m.getD e.frm.toNat false && decide (far.getD e.to.toNat (-1) = (k : Int))) a.edges a.letters
 have hbe : a.bestE far m (k : Int) j = a.edges.foldl (fun b e => if (m.getD e.frm.toNat false && decide (far.getD e.to.toNat (-1) = (k : Int))) = true ∧ e.letter < b then e.letter else b) a.letters := by
  unfold WA.bestE
  rw [List.take_of_length_le hj]
  congr 1
  funext b e
  simp only [Bool.and_eq_true, decide_eq_true_eq, and_assoc]
 rw [← hbe] at b1 b2 b3
 obtain ⟨e, he, h1, h2, h3⟩ := (hcond x hxL).1 hpk
 have hle := b2 e he (by simp only [Bool.and_eq_true, decide_eq_true_eq]; exact ⟨h1, h2⟩)
 have hL : (x : Int) < a.letters := by unfold WA.L at hxL; omega
 rcases b3 with b3 | ⟨e', he', h4, h5⟩
 ·omega
 ·simp only [Bool.and_eq_true, decide_eq_true_eq] at h4
  obtain ⟨i1, i2, i3⟩ := h.edge e' he'
  obtain ⟨y, hy, hyn⟩ := inN_nat i2
  rcases Nat.lt_or_ge y x with hlt | hge
  ·have := hfirst y hlt
   rw [(hcond y hyn).2 ⟨e', he', h4.1, h4.2, hy⟩] at this
   exact absurd this (by simp)
  ·omega
end Go.Proofs.YtpmceapjnnkhjaaDoor
namespace Go.Proofs.YtpmceapjnnkhjaaDoor
section
variable (L : Nat)
def extL (l : List (List Nat)) : List (List Nat) := l.flatMap fun p => (List.range L).map fun x => p ++ [x]
def extK : Nat → List (List Nat) → List (List Nat)
 | 0, l => l
 | k + 1, l => extK k (extL L l)
end
section
variable {L : Nat}
theorem extL_app (l m : List (List Nat)) : extL L (l ++ m) = extL L l ++ extL L m := List.flatMap_append
theorem extK_app : ∀ (k : Nat) (l m : List (List Nat)), extK L k (l ++ m) = extK L k l ++ extK L k m
 | 0, _, _ => rfl
 | k + 1, l, m => by
  show extK L k _ = extK L k _ ++ extK L k _
  rw [extL_app, extK_app k]
theorem extK_nil : ∀ k : Nat, extK L k [] = []
 | 0 => rfl
 | k + 1 => extK_nil k
theorem extK_flat (k : Nat) : ∀ l : List (List Nat), extK L k l = l.flatMap fun p => extK L k [p]
 | [] => extK_nil k
 | p :: l => by
  rw [show p :: l = [p] ++ l from rfl, extK_app, extK_flat k l]
  rfl
theorem extK_front (k : Nat) (p : List Nat) : extK L (k + 1) [p] = (List.range L).flatMap fun x => extK L k [p ++ [x]] := by
 show extK L k (extL L [p]) = _
 rw [extK_flat k (extL L [p])]
 unfold extL
 simp [List.flatMap_map]
theorem extK_back : ∀ (k : Nat) (l : List (List Nat)), extK L (k + 1) l = extL L (extK L k l)
 | 0, _ => rfl
 | k + 1, l => extK_back k (extL L l)
theorem extK_len : ∀ (k : Nat) {l : List (List Nat)} {n : Nat}, (∀ p ∈ l, p.length = n ∧ okW L p) → ∀ p ∈ extK L k l, p.length = n + k ∧ okW L p
 | 0, _, _, h => h
 | k + 1, l, n, h => fun p hp => by
  have := extK_len k (l := extL L l) (n := n + 1) (fun q hq => by
   obtain ⟨r, hr, hq⟩ := List.mem_flatMap.1 hq
   obtain ⟨x, hx, rfl⟩ := List.mem_map.1 hq
   obtain ⟨h1, h2⟩ := h r hr
   exact ⟨by simp [h1], h2.snoc (List.mem_range.1 hx)⟩) p hp
  exact ⟨by omega, this.2⟩
theorem extK_count : ∀ (k : Nat) (l : List (List Nat)), (extK L k l).length = l.length * L ^ k
 | 0, l => by simp [extK]
 | k + 1, l => by
  have h : (extL L l).length = l.length * L := by
   induction l with
   | nil => simp [extL]
   | cons p l ih =>
    rw [show p :: l = [p] ++ l from rfl, extL_app, List.length_append, ih]
    simp [extL, Nat.succ_mul, Nat.add_comm]
  show (extK L k (extL L l)).length = _
  rw [extK_count k, h, Nat.pow_succ, Nat.mul_assoc, Nat.mul_comm L]
end
theorem filter_flat {A B : Type} (p : B → Bool) (f : A → List B) : ∀ l : List A, (l.flatMap f).filter p = l.flatMap fun a => (f a).filter p
 | [] => rfl
 | a :: l => by simp [filter_flat p f l]
theorem flat_filter {A B : Type} (p : A → Bool) (f : A → List B) (h : ∀ a, p a = false → f a = []) : ∀ l : List A, l.flatMap f = (l.filter p).flatMap f
 | [] => rfl
 | a :: l => by
  rw [List.flatMap_cons, flat_filter p f h l]
  cases hp : p a with
  | true => rw [List.filter_cons_of_pos hp, List.flatMap_cons]
  | false => rw [List.filter_cons_of_neg (by rw [hp]; decide), h a hp, List.nil_append]
section
variable {a : NF}
def NF.wordsB (a : NF) (p : List Nat) (k : Nat) : List (List Nat) := (extK a.L k [p]).filter a.lang
def NF.liv (a : NF) (w : List Nat) : Bool := someM (runW a.after a.st w)
theorem NF.dead_after {a : NF} {m : List Bool} (h : someM m = false) (x : Nat) : someM (a.after m x) = false := by
 rcases hs : someM (a.after m x) with _ | _
 ·rfl
 ·obtain ⟨y, hy, h1⟩ := some_iff.1 hs
  rw [a.after_len] at hy
  obtain ⟨s, hs', h2, -⟩ := (NF.after_get hy).1 h1
  have : someM m = true := some_iff.2 ⟨s, by
   rcases Nat.lt_or_ge s m.length with h3 | h3
   ·exact h3
   ·rw [List.getD_eq_getElem?_getD, List.getElem?_eq_none h3] at h2
    simp at h2, h2⟩
  rw [h] at this
  cases this
theorem NF.liv_snoc {a : NF} {w : List Nat} {x : Nat} (h : a.liv w = false) : a.liv (w ++ [x]) = false := by
 unfold NF.liv
 rw [runW_snoc]
 exact NF.dead_after h x
theorem NF.dead_lang {a : NF} {w : List Nat} (h : a.liv w = false) : a.lang w = false := by
 rcases hl : a.lang w with _ | _
 ·rfl
 ·unfold NF.lang at hl
  obtain ⟨s, hs, h1, -⟩ := NF.has_iff.1 hl
  have : a.liv w = true := some_iff.2 ⟨s, by
   rcases Nat.lt_or_ge s (runW a.after a.st w).length with h3 | h3
   ·exact h3
   ·rw [List.getD_eq_getElem?_getD, List.getElem?_eq_none h3] at h1
    simp at h1, h1⟩
  rw [h] at this
  cases this
theorem NF.dead_ext {a : NF} : ∀ (k : Nat) (p : List Nat), a.liv p = false → ∀ q ∈ extK a.L k [p], a.liv q = false
 | 0, p, h, q, hq => by rw [List.mem_singleton.1 hq]; exact h
 | k + 1, p, h, q, hq => by
  rw [extK_front] at hq
  obtain ⟨x, -, hq⟩ := List.mem_flatMap.1 hq
  exact NF.dead_ext k _ (NF.liv_snoc h) q hq
theorem NF.wordsB_dead {p : List Nat} (h : a.liv p = false) (k : Nat) : a.wordsB p k = [] := by
 unfold NF.wordsB
 rw [List.filter_eq_nil_iff]
 intro q hq
 rw [NF.dead_lang (NF.dead_ext k p h q hq)]
 decide
theorem NF.wordsB_zero (a : NF) (p : List Nat) : a.wordsB p 0 = if a.lang p then [p] else [] := by
 unfold NF.wordsB extK
 rcases h : a.lang p with _ | _ <;> simp [h]
theorem NF.wordsB_succ (a : NF) (p : List Nat) (k : Nat) : a.wordsB p (k + 1) = (List.range a.L).flatMap fun x => a.wordsB (p ++ [x]) k := by
 unfold NF.wordsB
 rw [extK_front, filter_flat]
def NF.round (a : NF) : Nat → List (List Nat)
 | 0 => [[]]
 | k + 1 => ((a.round k).flatMap fun w => (List.range a.L).map fun x => w ++ [x]).filter a.liv
theorem NF.round_filter (a : NF) : ∀ k, (a.round k).filter a.liv = (extK a.L k [[]]).filter a.liv
 | 0 => rfl
 | k + 1 => by
  show List.filter _ (List.filter _ _) = _
  rw [List.filter_filter, extK_back, filter_flat]
  unfold extL
  rw [filter_flat]
  simp only [Bool.and_self]
  have hd : ∀ w : List Nat, a.liv w = false → ((List.range a.L).map fun x => w ++ [x]).filter a.liv = [] := fun w hw => by
   rw [List.filter_eq_nil_iff]
   intro q hq
   obtain ⟨x, -, rfl⟩ := List.mem_map.1 hq
   rw [NF.liv_snoc hw]
   decide
  rw [flat_filter a.liv _ hd, flat_filter a.liv _ hd (extK a.L k [[]]), a.round_filter k]
theorem NF.round_words (a : NF) (k : Nat) : (a.round k).filter a.lang = a.wordsB [] k := by
 have h : ∀ l : List (List Nat), l.filter a.lang = (l.filter a.liv).filter a.lang := fun l => by
  rw [List.filter_filter]
  refine List.filter_congr fun w _ => ?_
  rcases hw : a.liv w with _ | _
  ·rw [NF.dead_lang hw]; rfl
  ·simp
 unfold NF.wordsB
 rw [h, a.round_filter k, ← h]
end
end Go.Proofs.YtpmceapjnnkhjaaDoor
namespace Go.Proofs.YtpmceapjnnkhjaaDoor
open Go.RowKit
set_option maxHeartbeats 16000000
set_option maxRecDepth 100000
def MR (w : World) (m : List Bool) (r : Value) (w' : World) : Prop := Below w.heap.size w w' ∧ Marks w' w'.heap.size r m ∧ ∀ g, r.ownBlock = some g → w.heap.size ≤ g
theorem after_any {w : World} {v u : Value} {a : WA} {m : List Bool} {x : Nat} (h : IsWA w w.heap.size v a) (hin : a.In) (hS : 0 ≤ a.states ∧ a.states ≤ 200000) (hM : Marks w w.heap.size u m) (hm : m.length = a.n) (hx : x < a.L) :
  Calls Tryd.prog 58 #[v, u, .int .i64 (x : Int)] w (Ret fun r w' => MR w (a.nf.after m x) r w') := by
 obtain ⟨A1, c1, A2, c2, A3, c3, rfl, h1, h2, h3, h4⟩ := h
 obtain ⟨gm, hgm, rfl, hBm⟩ := hM
 obtain ⟨n, hn⟩ := Int.eq_ofNat_of_zero_le hS.1
 have hn80 : n ≤ 200000 := by omega
 have han : a.n = n := by unfold WA.n; rw [hn]; rfl
 have hfin := hide (fun k (hk : a.edges.length ≤ k) => WA.afterE_all hin (m := m) hx hk)
 obtain ⟨w1, hw1, hb1, hB1, hk1⟩ := box_blk w #[.int .i64 a.letters, .int .i64 a.states, .slice A1 a.start.length c1, .slice A2 a.accept.length c2, .slice A3 a.edges.length c3] 25
 obtain ⟨g, w2, hmk, hbl, hb2, hg⟩ := mk_bools w1 n (by omega)
 have hs1 := hb1.size
 have hs2 := hb2.size
 have hc1 := hB1.cell
 have hB2 := hB1.below hb2
 have hc2 := hB2.cell
 rw [hn] at hw1 hc1 hc2 hB1 hB2 ⊢
 rw [marks_new] at hbl
 have hb02 := hide (hb1.trans (hb2.mono hs1))
 have hB2H := hide hB2
 have hl2 := hB2.lt
 have hl1 := hB1.lt
 have hblH := hide (show Blk w2 g 4 ((a.afterE m (x : Int) 0).map Value.bool).toArray from by rw [WA.afterE_zero, han]; exact hbl)
 have hBmH := hide hBm
 have h3H := hide h3
 have hinH := hide hin
 have hnH := hide hn
 have hanH := hide han
 have hmH := hide (hm.trans han)
 have l3 := h3.1
 obtain ⟨ne, hne⟩ : ∃ ne, ne = a.edges.length := ⟨_, rfl⟩
 have hneH := hide hne
 have hml := hm.trans han
 rw [← hne] at hw1 hc1 hc2 hB2H l3 ⊢
 rw [hml]
 clear h1 h2 h3 h4 hk1 hb1 hb2 hB1 hB2 hbl hBm hin hS hn han hm hne hx hml
 go_enter Tryd.func58, Tryd.ntmps58
 go_wp2_with fail
 go_loopw [8] (fun ii wr => ∃ (k : Nat), ii = .int .i64 (k : Int) ∧ k ≤ ne ∧ Hid (Blk wr g 4 ((a.afterE m (x : Int) k).map Value.bool).toArray) ∧ Hid (Kept w2 wr (fun k => k = g))) (fun ii _ => ne - (intOf ii).toNat)
 case atStart => exact ⟨0, rfl, Nat.zero_le _, hblH, Kept.refl _ _⟩
 case round =>
  obtain ⟨k, rfl, hk, hA, hK⟩ := hrel
  have hb1r := hide (hb02.out.trans (hK.out.below (B := w.heap.size) (by have := hb02.out.size; omega) (fun b hb e => by omega)))
  have hBr : Blk wr w.heap.size 25 _ := hB2H.out.kept hK.out (by omega)
  have hcr := hBr.cell
  by_cases hlt : k < ne
  ·obtain ⟨b, off, e, rfl, hbk, hxe, hc⟩ := h3H.out.at (k := k) (by rw [← hneH.out]; exact hlt)
   have hcc := fun j hj => (hb1r.out.cell (by exact hbk)).trans (hc j hj)
   have q0 := hcc 0 (by omega)
   have q1 := hcc 1 (by omega)
   have q2 := hcc 2 (by omega)
   simp only [Nat.add_zero, encE] at q0 q1 q2
   obtain ⟨i1, i2, i3⟩ := hinH.out.edge e (List.mem_of_getElem? hxe)
   rw [hnH.out] at i1 i3
   obtain ⟨f, hf, hfn⟩ := inN_nat i1
   obtain ⟨t, ht, htn⟩ := inN_nat i3
   simp only [Int.toNat_natCast] at hfn htn
   have hst := hide (WA.afterE_step (a := a) (m := m) (x := (x : Int)) hxe (by omega))
   obtain ⟨bf, hbf⟩ := get_lt (l := m) (i := f) (by rw [hmH.out]; exact hfn)
   have hcf : wr.cell? ⟨gm, f, none⟩ = some (.bool bf) := (hb1r.out.cell (by exact hgm)).trans (Marks.cell hBmH.out hbf)
   have hgf : Hid (m.getD e.frm.toNat false = bf) := by show _ = _; rw [hf, Int.toNat_natCast, getD_some hbf]
   have htt : Hid (e.to.toNat = t) := by show _ = _; rw [ht, Int.toNat_natCast]
   obtain ⟨bt, hbt⟩ := get_lt (l := a.afterE m (x : Int) k) (i := t) (by rw [WA.afterE_len, hanH.out]; exact htn)
   have hct : wr.cell? ⟨g, t, none⟩ = some (.bool bt) := Marks.cell hA.out hbt
   have hfr := hA.out.frozen t
   have hlr := hA.out.lt
   obtain ⟨x0, x1, x2⟩ := e
   dsimp only at *
   subst hf ht
   have hset : Hid (Blk (wr.setCell ⟨g, t, none⟩ (.bool true)) g 4 (((a.afterE m (x : Int) k).set t true).map Value.bool).toArray) := by
    have := hA.out.set_ t (.bool true)
    rw [marks_set] at this
    exact this
   have hK2 := hide (hK.out.setCell (p := ⟨g, t, none⟩) (fun _ => rfl) (.bool true))
   clear hxe hc hcc i1 i2 i3 hbf hbt hBr
   by_cases hyx : x1 = (x : Int)
   ·cases bf
    ·have hst2 : Hid (a.afterE m (x : Int) (k + 1) = a.afterE m (x : Int) k) := by show _ = _; rw [hst.out, hgf.out]; simp
     go_wp2_with fail
     exact ⟨⟨k + 1, by go_num, by omega, by rw [hst2.out]; exact hA, hK⟩, by simp [intOf]; omega⟩
    ·have hst2 : Hid (a.afterE m (x : Int) (k + 1) = (a.afterE m (x : Int) k).set t true) := by show _ = _; rw [hst.out, hgf.out, htt.out]; simp [hyx]
     go_wp2_with fail
     exact ⟨⟨k + 1, by go_num, by omega, by rw [hst2.out]; exact hset, hK2⟩, by simp [intOf]; omega⟩
   ·have hst2 : Hid (a.afterE m (x : Int) (k + 1) = a.afterE m (x : Int) k) := by show _ = _; rw [hst.out]; simp [hyx]
    go_wp2_with fail
    exact ⟨⟨k + 1, by go_num, by omega, by rw [hst2.out]; exact hA, hK⟩, by simp [intOf]; omega⟩
  ·have hfi := hide (hfin.out k (by have := hneH.out; omega))
   clear hBr
   go_wp2_with fail
   go_ret
   have hA2 := hA.out
   rw [hfi.out] at hA2
   refine ⟨hb1r.out, ⟨g, hA2.lt, by rw [NF.after_len, a.nf_n, hanH.out]; rfl, hA2⟩, fun g' hg' => ?_⟩
   simp [Value.ownBlock] at hg'
   omega
theorem meets_any {w : World} {B c : Nat} {u : Value} {A : Option Addr} {m : List Bool} {l : List Int} (hM : Marks w w.heap.size u m) (h : Sl w B 1 encI A l) (hin : ∀ x ∈ l, inN m.length x = true) :
  Calls Tryd.prog 68 #[u, .slice A l.length c] w fun e w' => e = .returned (.bool (l.any fun s => m.getD s.toNat false)) ∧ w = w' := by
 obtain ⟨gm, hgm, rfl, hBm⟩ := hM
 have hn := h.1
 have hBmH := hide hBm
 have hI := hide hin
 obtain ⟨n, hne⟩ : ∃ n, n = l.length := ⟨_, rfl⟩
 have hnH := hide hne
 obtain ⟨mm, hmm⟩ : ∃ mm, mm = m.length := ⟨_, rfl⟩
 have hmmH := hide hmm
 obtain ⟨p, hp⟩ : ∃ p : Int → Bool, p = fun s => m.getD s.toNat false := ⟨_, rfl⟩
 have hpe := hide (show ∀ s, p s = m.getD s.toNat false from fun s => by rw [hp])
 rw [← hne] at hn ⊢
 rw [← hmm, ← hp]
 clear hBm hin hne hmm hp
 go_enter Tryd.func68, Tryd.ntmps68
 go_wp2_with fail
 go_loop [5] (fun ii => ∃ (k : Nat), ii = .int .i64 (k : Int) ∧ k ≤ n ∧ Hid (∀ s ∈ l.take k, p s = false)) (fun ii => n - (intOf ii).toNat)
 case atStart => exact ⟨0, rfl, Nat.zero_le _, hide (by simp)⟩
 case round =>
  obtain ⟨k, rfl, hk, hE⟩ := hrel
  by_cases hlt : k < n
  ·obtain ⟨z, hz⟩ := get_lt (l := l) (i := k) (by rw [← hnH.out]; exact hlt)
   obtain ⟨q, rfl, hq⟩ := inN_nat (hI.out z (List.mem_of_getElem? hz))
   simp only [Int.toNat_natCast] at hq
   obtain ⟨b0, o0, rfl, -, hc⟩ := sl_intat h hz
   obtain ⟨b, hb⟩ := get_lt hq
   have hcb := Marks.cell hBmH.out hb
   have hgb : Hid (p (q : Int) = b) := by show _ = _; rw [hpe.out, Int.toNat_natCast, getD_some hb]
   have hqm : q < mm := by rw [hmmH.out]; exact hq
   have hzH := hide hz
   clear hb hz hq
   cases b
   ·have hE2 : Hid (∀ s ∈ l.take (k + 1), p s = false) := fun s hs => by
     rw [take_snoc hzH.out] at hs
     rcases List.mem_append.1 hs with hs | hs
     ·exact hE.out s hs
     ·rw [List.mem_singleton.1 hs]; exact hgb.out
    go_wp2_with fail
    exact ⟨⟨k + 1, by go_num, by omega, hE2⟩, by simp [intOf]; omega⟩
   ·have hA : Hid (l.any p = true) := List.any_eq_true.2 ⟨_, List.mem_of_getElem? hzH.out, hgb.out⟩
    go_wp2_with fail
    go_ret
    exact ⟨by rw [hA.out]; rfl, rfl⟩
  ·have hA : Hid (l.any p = false) := by
    have hta := hE.out
    rw [List.take_of_length_le (by have := hnH.out; omega)] at hta
    exact List.any_eq_false.2 fun s hs => by rw [hta s hs]; decide
   go_wp2_with fail
   go_ret
   exact ⟨by rw [hA.out]; rfl, rfl⟩
end Go.Proofs.YtpmceapjnnkhjaaDoor
