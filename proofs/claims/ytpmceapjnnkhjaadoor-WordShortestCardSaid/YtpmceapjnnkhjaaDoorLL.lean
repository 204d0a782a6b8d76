/-
  Part LL of a proof.
-/
import Derived.Test.YtpmceapjnnkhjaaDoorPA
import Derived.Test.YtpmceapjnnkhjaaDoorPB
import Derived.Test.YtpmceapjnnkhjaaDoorLC
set_option maxHeartbeats 16000000
set_option maxRecDepth 100000
set_option linter.unusedVariables false
set_option linter.unusedSimpArgs false
namespace Go.Proofs.YtpmceapjnnkhjaaDoor
def WA.bestE (a : WA) (far : List Int) (m : List Bool) (l : Int) (k : Nat) : Int :=
 (a.edges.take k).foldl (fun b e => if m.getD e.frm.toNat false = true ∧ far.getD e.to.toNat (-1) = l ∧ e.letter < b then e.letter else b) a.letters
theorem WA.bestE_zero (a : WA) (far : List Int) (m : List Bool) (l : Int) : a.bestE far m l 0 = a.letters := rfl
theorem WA.bestE_step {a : WA} {far : List Int} {m : List Bool} {l : Int} {k : Nat} {e : Edg} (h : a.edges[k]? = some e) :
  a.bestE far m l (k + 1) = if m.getD e.frm.toNat false = true ∧ far.getD e.to.toNat (-1) = l ∧ e.letter < a.bestE far m l k then e.letter else a.bestE far m l k := by
 unfold WA.bestE
 rw [List.take_add_one, h]
 simp only [Option.toList_some, List.foldl_append, List.foldl_cons, List.foldl_nil]
theorem best_fold {p : Edg → Bool} : ∀ (es : List Edg) (b : Int),
  let r := es.foldl (fun b e => if p e = true ∧ e.letter < b then e.letter else b) b
  r ≤ b ∧ (∀ e ∈ es, p e = true → r ≤ e.letter) ∧ (r = b ∨ ∃ e ∈ es, p e = true ∧ r = e.letter)
 | [], b => ⟨Int.le_refl _, fun e he => absurd he List.not_mem_nil, .inl rfl⟩
 | e :: es, b => by
  intro r
  have hr : r = es.foldl (fun b e => if p e = true ∧ e.letter < b then e.letter else b) (if p e = true ∧ e.letter < b then e.letter else b) := rfl
  obtain ⟨h1, h2, h3⟩ := best_fold (p := p) es (if p e = true ∧ e.letter < b then e.letter else b)
  rw [← hr] at h1 h2 h3
  by_cases hc : p e = true ∧ e.letter < b
  ·rw [if_pos hc] at h1 h3
   refine ⟨by omega, fun x hx hp => ?_, ?_⟩
   ·rcases List.mem_cons.1 hx with rfl | hx
    ·exact h1
    ·exact h2 x hx hp
   ·rcases h3 with h3 | ⟨x, hx, h3⟩
    ·exact .inr ⟨e, List.mem_cons_self, hc.1, h3⟩
    ·exact .inr ⟨x, List.mem_cons_of_mem _ hx, h3⟩
  ·rw [if_neg hc] at h1 h3
   refine ⟨h1, fun x hx hp => ?_, ?_⟩
   ·rcases List.mem_cons.1 hx with rfl | hx
    ·have : ¬ x.letter < b := fun hl => hc ⟨hp, hl⟩
     omega
    ·exact h2 x hx hp
   ·rcases h3 with h3 | ⟨x, hx, h3⟩
    ·exact .inl h3
    ·exact .inr ⟨x, List.mem_cons_of_mem _ hx, h3⟩
theorem WA.bestE_pick {a : WA} (h : a.In) {far : List Int} {m : List Bool} {k x j : Nat} (hp : a.nf.pick far m k = some x) (hj : a.edges.length ≤ j) : a.bestE far m (k : Int) j = (x : Int) := by
 have hpk := List.find?_some hp
 have hxL : x < a.L := List.mem_range.1 (List.mem_of_find?_eq_some hp)
 have hfirst : ∀ y, y < x → someM (cutM far (a.nf.after m y) k) = false := fun y hy => by
  have := List.find?_eq_some_iff_append.1 hp
  obtain ⟨_, as1, bs, hab, hall⟩ := this
  have hys : y ∈ as1 := by
   have hlen : as1.length = x := by
    have h1 : (List.range a.nf.L)[as1.length]? = some x := by rw [hab]; simp
    rw [List.getElem?_eq_some_iff] at h1
    obtain ⟨h2, h3⟩ := h1
    simpa using h3
   have h1 : (List.range a.nf.L)[y]? = some y := by
    rw [List.getElem?_range]
    have : a.nf.L = a.L := rfl
    omega
   rw [hab, List.getElem?_append_left (by omega)] at h1
   exact List.mem_of_getElem? h1
  simpa using hall y hys
 have hcond : ∀ y, y < a.L → (someM (cutM far (a.nf.after m y) k) = true ↔ ∃ e ∈ a.edges, m.getD e.frm.toNat false = true ∧ far.getD e.to.toNat (-1) = (k : Int) ∧ e.letter = (y : Int)) := fun y hy => by
  rw [some_iff]
  constructor
  ·rintro ⟨q, hq, h1⟩
   obtain ⟨h2, h3⟩ := cutM_get.1 h1
   have hqn : q < a.nf.n := by simpa [cutM, NF.after_len] using hq
   obtain ⟨s, hs, h4, h5⟩ := (NF.after_get hqn).1 h2
   rw [a.nf_to (by rw [← a.nf_n]; exact hs) hy] at h5
   obtain ⟨e, he, h6, h7, h8⟩ := WA.mem_to.1 h5
   exact ⟨e, he, by rw [h6]; simpa using h4, by rw [h8]; simpa using h3, h7⟩
  ·rintro ⟨e, he, h1, h2, h3⟩
   obtain ⟨i1, i2, i3⟩ := h.edge e he
   obtain ⟨f, hf, hfn⟩ := inN_nat i1
   obtain ⟨t, ht, htn⟩ := inN_nat i3
   have htn' : t < a.nf.n := by rw [a.nf_n]; exact htn
   refine ⟨t, by simpa [cutM, NF.after_len] using htn', cutM_get.2 ⟨(NF.after_get htn').2 ⟨f, by rw [a.nf_n]; exact hfn, by rw [hf] at h1; simpa using h1, ?_⟩, by rw [ht] at h2; simpa using h2⟩⟩
   rw [a.nf_to hfn hy]
   exact WA.mem_to.2 ⟨e, he, hf, h3, ht⟩
 obtain ⟨b1, b2, b3⟩ := best_fold (p := fun e => m.getD e.frm.toNat false && decide (far.getD e.to.toNat (-1) = (k : Int))) a.edges a.letters
 have hbe : a.bestE far m (k : Int) j = a.edges.foldl (fun b e => if (m.getD e.frm.toNat false && decide (far.getD e.to.toNat (-1) = (k : Int))) = true ∧ e.letter < b then e.letter else b) a.letters := by
  unfold WA.bestE
  rw [List.take_of_length_le hj]
  congr 1
  funext b e
  simp only [Bool.and_eq_true, decide_eq_true_eq, and_assoc]
 rw [← hbe] at b1 b2 b3
 obtain ⟨e, he, h1, h2, h3⟩ := (hcond x hxL).1 hpk
 have hle := b2 e he (by simp only [Bool.and_eq_true, decide_eq_true_eq]; exact ⟨h1, h2⟩)
 have hL : (x : Int) < a.letters := by unfold WA.L at hxL; omega
 rcases b3 with b3 | ⟨e', he', h4, h5⟩
 ·omega
 ·simp only [Bool.and_eq_true, decide_eq_true_eq] at h4
  obtain ⟨i1, i2, i3⟩ := h.edge e' he'
  obtain ⟨y, hy, hyn⟩ := inN_nat i2
  rcases Nat.lt_or_ge y x with hlt | hge
  ·have := hfirst y hlt
   rw [(hcond y hyn).2 ⟨e', he', h4.1, h4.2, hy⟩] at this
   exact absurd this (by simp)
  ·omega
end Go.Proofs.YtpmceapjnnkhjaaDoor
namespace Go.Proofs.YtpmceapjnnkhjaaDoor
open Go.RowKit
set_option maxHeartbeats 16000000
set_option maxRecDepth 100000
def intC (l : List Int) : Array Value := (l.map (Value.int .i64)).toArray
theorem intC_set (l : List Int) (i : Nat) (v : Int) : (intC l).setIfInBounds i (.int .i64 v) = intC (l.set i v) := by
 unfold intC
 rw [List.map_set]
 simp
theorem intC_get {l : List Int} {i : Nat} {v : Int} (h : l[i]? = some v) : (intC l)[i]? = some (.int .i64 v) := by
 unfold intC
 rw [List.getElem?_toArray]
 exact map_get h
theorem intC_cell {w : World} {g : Nat} {l : List Int} (h : Blk w g 3 (intC l)) {i : Nat} {v : Int} (hi : l[i]? = some v) : w.cell? ⟨g, i, none⟩ = some (.int .i64 v) := (h.cell i).trans (intC_get hi)
theorem intC_put {w : World} {g : Nat} {l : List Int} (h : Blk w g 3 (intC l)) (i : Nat) (v : Int) : Blk (w.setCell ⟨g, i, none⟩ (.int .i64 v)) g 3 (intC (l.set i v)) := by
 have := h.set_ i (.int .i64 v)
 rwa [intC_set] at this
def WA.es (a : WA) : List (Nat × Nat) := a.edges.map fun e => (e.frm.toNat, e.to.toNat)
theorem WA.es_edge {a : WA} (h : a.In) (e : Nat × Nat) : e ∈ a.es ↔ e.1 < a.nf.n ∧ e.2 < a.nf.n ∧ a.nf.edge e.1 e.2 := by
 rw [a.nf_n]
 unfold WA.es NF.edge
 rw [List.mem_map]
 constructor
 ·rintro ⟨x, hx, rfl⟩
  obtain ⟨i1, i2, i3⟩ := h.edge x hx
  obtain ⟨f, hf, hfn⟩ := inN_nat i1
  obtain ⟨l, hl, hln⟩ := inN_nat i2
  obtain ⟨t, ht, htn⟩ := inN_nat i3
  have h1 : f < a.n := hfn
  have h2 : l < a.L := hln
  have h3 : t < a.n := htn
  simp only [hf, ht, Int.toNat_natCast]
  refine ⟨h1, h3, l, h2, ?_⟩
  rw [a.nf_to h1 h2, WA.mem_to]
  exact ⟨x, hx, hf, hl, ht⟩
 ·rintro ⟨h1, h2, x, hx, hm⟩
  rw [a.nf_to h1 hx, WA.mem_to] at hm
  obtain ⟨y, hy, e1, e2, e3⟩ := hm
  exact ⟨y, hy, by rw [e1, e3]; simp⟩
theorem NF.far0_zero (a : NF) : a.far0 0 = List.replicate a.n 0 := by
 apply List.ext_getElem?
 intro q
 rcases Nat.lt_or_ge q a.n with h | h
 ·rw [NF.far0_at h, if_neg (by omega), List.getElem?_replicate, if_pos h]
 ·rw [List.getElem?_eq_none (by rw [a.far0_len]; exact h), List.getElem?_eq_none (by simpa using h)]
def NF.stM (a : NF) (far : List Int) (b : Int) (i : Nat) : List Bool := (List.range a.n).map fun q : Nat => ((a.start.take i).any fun s => decide (s = (q : Int))) && decide (far.getD q (-1) = b)
theorem NF.stM_len (a : NF) (far : List Int) (b : Int) (i : Nat) : (a.stM far b i).length = a.n := by simp [NF.stM]
theorem NF.stM_get {a : NF} {far : List Int} {b : Int} {i q : Nat} (h : q < a.n) : (a.stM far b i)[q]? = some (((a.start.take i).any fun s => decide (s = (q : Int))) && decide (far.getD q (-1) = b)) := by simp [NF.stM, h]
theorem NF.stM_zero (a : NF) (far : List Int) (b : Int) : a.stM far b 0 = List.replicate a.n false := by
 apply List.ext_getElem?
 intro q
 rcases Nat.lt_or_ge q a.n with h | h
 ·rw [NF.stM_get h, List.getElem?_replicate, if_pos h]; simp
 ·rw [List.getElem?_eq_none (by rw [a.stM_len]; exact h), List.getElem?_eq_none (by simpa using h)]
theorem NF.stM_step {a : NF} {far : List Int} {b : Int} {i s : Nat} (hs : a.start[i]? = some (s : Int)) : a.stM far b (i + 1) = if far.getD s (-1) = b then (a.stM far b i).set s true else a.stM far b i := by
 apply List.ext_getElem?
 intro q
 rcases Nat.lt_or_ge q a.n with h | h
 ·rw [NF.stM_get h, take_snoc hs, List.any_append]
  split
  ·rename_i hb
   rw [List.getElem?_set, a.stM_len]
   by_cases e : s = q
   ·subst e
    rw [if_pos rfl, if_pos h, decide_eq_true hb]
    simp
   ·rw [if_neg e, NF.stM_get h]
    have : decide ((s : Int) = (q : Int)) = false := by simp; omega
    simp [this]
  ·rename_i hb
   rw [NF.stM_get h]
   by_cases e : s = q
   ·subst e
    rw [decide_eq_false hb]
    simp
   ·have : decide ((s : Int) = (q : Int)) = false := by simp; omega
    simp [this]
 ·rw [List.getElem?_eq_none (by rw [a.stM_len]; exact h), List.getElem?_eq_none]
  split <;> simp [a.stM_len, h]
theorem NF.stM_all {a : NF} {far : List Int} {k i : Nat} (hi : a.start.length ≤ i) : a.stM far (k : Int) i = cutM far a.st k := by
 unfold NF.stM cutM
 rw [a.st_len, List.take_of_length_le hi]
 refine List.map_congr_left fun q hq => ?_
 rw [NF.st_get (List.mem_range.1 hq)]
 congr 1
 rw [Bool.eq_iff_iff, List.any_eq_true]
 simp
def cutP (far : List Int) (m : List Bool) (l : Int) (i : Nat) : List Bool := (List.range m.length).map fun q => if q < i then m.getD q false && decide (far.getD q (-1) = l) else m.getD q false
theorem cutP_len (far : List Int) (m : List Bool) (l : Int) (i : Nat) : (cutP far m l i).length = m.length := by simp [cutP]
theorem cutP_get {far : List Int} {m : List Bool} {l : Int} {i q : Nat} (h : q < m.length) : (cutP far m l i)[q]? = some (if q < i then m.getD q false && decide (far.getD q (-1) = l) else m.getD q false) := by simp [cutP, h]
theorem cutP_zero (far : List Int) (m : List Bool) (l : Int) : cutP far m l 0 = m := by
 apply List.ext_getElem?
 intro q
 rcases Nat.lt_or_ge q m.length with h | h
 ·rw [cutP_get h, if_neg (by omega), List.getD_eq_getElem?_getD, List.getElem?_eq_getElem h]; rfl
 ·rw [List.getElem?_eq_none (by rw [cutP_len]; exact h), List.getElem?_eq_none h]
theorem cutP_step {far : List Int} {m : List Bool} {l : Int} {i : Nat} (h : i < m.length) : cutP far m l (i + 1) = (cutP far m l i).set i (m.getD i false && decide (far.getD i (-1) = l)) := by
 apply List.ext_getElem?
 intro q
 rcases Nat.lt_or_ge q m.length with hq | hq
 ·rw [List.getElem?_set, cutP_len, cutP_get hq]
  by_cases e : i = q
  ·subst e
   rw [if_pos rfl, if_pos h, if_pos (by omega)]
  ·rw [if_neg e, cutP_get hq]
   by_cases e2 : q < i
   ·rw [if_pos (by omega), if_pos e2]
   ·rw [if_neg (by omega), if_neg e2]
 ·rw [List.getElem?_eq_none (by rw [cutP_len]; exact hq), List.getElem?_eq_none (by rw [List.length_set, cutP_len]; exact hq)]
theorem cutP_all {far : List Int} {m : List Bool} {k i : Nat} (h : m.length ≤ i) : cutP far m (k : Int) i = cutM far m k := by
 unfold cutP cutM
 exact List.map_congr_left fun q hq => by rw [if_pos (by have := List.mem_range.1 hq; omega)]
theorem boolC_put {w : World} {g : Nat} {m : List Bool} (h : Blk w g 4 (m.map Value.bool).toArray) (i : Nat) (v : Bool) : Blk (w.setCell ⟨g, i, none⟩ (.bool v)) g 4 ((m.set i v).map Value.bool).toArray := by
 have := h.set_ i (.bool v)
 rw [show ((m.map Value.bool).toArray).setIfInBounds i (.bool v) = ((m.set i v).map Value.bool).toArray by
  apply Array.ext'
  simp [List.map_set]] at this
 exact this
theorem refShortest_any {v : Value} {a : WA} {w : World} (h : IsWA w w.heap.size v a) (hst : a.start.length ≤ 1000000) :
  Calls Tryd.prog 27 #[v] w (Ret fun r w' => ShoRet w a r w') := by
 have hWA := hide h
 obtain ⟨A1, c1, A2, c2, A3, c3, rfl, h1, h2, h3, h4⟩ := h
 obtain ⟨w1, hw1, hb1, hB1, hk1⟩ := box_blk w #[.int .i64 a.letters, .int .i64 a.states, .slice A1 a.start.length c1, .slice A2 a.accept.length c2, .slice A3 a.edges.length c3] 25
 have hs1 := hb1.size
 have hc1 := hB1.cell
 have hb1H := hide hb1
 have hB1H := hide hB1
 have h1H := hide h1
 have h2H := hide h2
 have h3H := hide h3
 have hstH := hide hst
 have l1 := h1.1
 have l3 := h3.1
 have hv := refValidate_any (hWA.out.keep (w' := w1) (fun p hp => hb1.cell hp) hs1)
 rcases hok : a.ok with _ | _
 ·rw [hok, show errno false = 1 from rfl] at hv
  have hokH := hide hok
  clear h1 h2 h3 h4 hk1 hb1 hB1 hok hst
  go_enter Tryd.func27, Tryd.ntmps27
  go_wp2_with fail
  refine Calls.ret hv ?_
  rintro r w2 ⟨rfl, hb2⟩
  have hb02 := hide (hb1H.out.trans (hb2.mono hs1))
  clear hv hb2 hc1
  go_wp2_with fail
  refine bodyPost_ret (v := .tuple #[.slice none 0 0, .bool false, .int .i64 1]) (by simp [results, Tryd.results27, go_sem]) rfl ⟨hb02.out, .inl ⟨hokH.out, rfl⟩⟩
 ·rw [hok, show errno true = 0 from rfl] at hv
  have hokH := hide hok
  obtain ⟨⟨o1, o2, o3, o4⟩, hin⟩ := WA.ok_iff.1 hok
  have hinH := hide hin
  obtain ⟨n, hS⟩ := Int.eq_ofNat_of_zero_le o3
  have hn : a.nf.n = n := by rw [a.nf_n]; unfold WA.n; rw [hS]; rfl
  have hn4 : n ≤ 400 := by omega
  have hnH := hide hn
  obtain ⟨ne, hne⟩ : ∃ ne, ne = a.edges.length := ⟨_, rfl⟩
  have hneH := hide hne
  obtain ⟨ns, hns⟩ : ∃ ns, ns = a.start.length := ⟨_, rfl⟩
  have hnsH := hide hns
  rw [← hne] at hw1 hc1 hB1H l3 hv ⊢
  rw [← hns] at hw1 hc1 hB1H l1 hv ⊢
  rw [hS] at hw1 hc1 hB1H hv ⊢
  clear h1 h2 h3 h4 hk1 hb1 hB1 hok hst hin hn hne hns hS
  go_enter Tryd.func27, Tryd.ntmps27
  go_wp2_with fail
  refine Calls.ret hv ?_
  rintro r w2 ⟨rfl, hb2⟩
  obtain ⟨gf, w3, hmk, hbl, hb3, hg3⟩ := mk_ints w2 n (by omega)
  have hb23 := hb2.trans (hb3.mono hb2.size)
  have hb03 := hide (hb1H.out.trans (hb23.mono hs1))
  have hB3 := hide (hB1H.out.below hb23)
  have hlt3 : w.heap.size < w3.heap.size := by have := hB3.out.lt; exact this
  have hgf : w.heap.size < gf := by have := hB1H.out.lt; have := hb2.size; omega
  have hF0 : Hid (Blk w3 gf 3 (intC (a.nf.far0 0))) := by
   show Blk _ _ _ _
   rw [NF.far0_zero, hnH.out]
   unfold intC
   simp only [List.map_replicate, List.toArray_replicate]
   exact hbl
  have hc2 := (hB1H.out.below hb2).cell
  clear hv hb2 hc1 hb23 hb3 hbl
  go_wp2_with fail
  go_loopw [7] (fun ii wr => ∃ (k : Nat), ii = .int .i64 (k : Int) ∧ k ≤ n ∧ Hid (Blk wr gf 3 (intC (a.nf.far0 k))) ∧ Hid (Kept w3 wr (fun k => k = gf))) (fun ii _ => n - (intOf ii).toNat)
  case atStart => exact ⟨0, rfl, Nat.zero_le _, hF0, Kept.refl _ _⟩
  case round =>
   obtain ⟨k, rfl, hk, hF, hK⟩ := hrel
   have hb0r := hide (hb03.out.trans (hK.out.below (B := w.heap.size) (by omega) (fun b hb e => by omega)))
   have hcr := (hB3.out.kept hK.out (by omega)).cell
   by_cases hlt : k < n
   ·have hkn : k < a.nf.n := by rw [hnH.out]; exact hlt
    have hat := NF.far0_at (s := k) hkn
    have hck := intC_cell hF.out hat
    have hfr := hF.out.frozen k
    have hlk := hF.out.lt
    have hF1 := hide (intC_put hF.out k (-1))
    have hK1 := hide (hK.out.setCell (p := ⟨gf, k, none⟩) (fun _ => rfl) (.int .i64 (-1)))
    have hcr1 := (hB3.out.kept hK1.out (by omega)).cell
    have hst := hide (NF.far0_step hkn)
    have hacc : Hid (a.nf.acc.getD k false = decide ((k : Int) ∈ a.accept)) := WA.nf_acc (by rw [← a.nf_n]; exact hkn)
    have hb0s := hide (hb03.out.trans (hK1.out.below (B := w.heap.size) (by omega) (fun b hb e => by omega)))
    have hhas := has_any (c := c2) (k : Int) (h2H.out.keep (w' := wr.setCell ⟨gf, k, none⟩ (.int .i64 (-1))) (fun p hp => hb0s.out.cell hp) (Nat.le_refl _))
    clear hat hkn
    cases hm : decide ((k : Int) ∈ a.accept) with
    | false =>
     have hst2 : Hid ((a.nf.far0 k).set k (-1) = a.nf.far0 (k + 1)) := by have := hst.out; rw [hacc.out, hm] at this; exact this
     rw [hm] at hhas
     clear hm
     go_wp2_with fail
     refine hhas.mono ?_
     rintro e w' ⟨rfl, rfl⟩
     go_wp2_with fail
     exact ⟨⟨k + 1, by go_num, by omega, by rw [← hst2.out]; exact hF1, hK1⟩, by simp [intOf]; omega⟩
    | true =>
     have hst2 : Hid ((a.nf.far0 k).set k 0 = a.nf.far0 (k + 1)) := by have := hst.out; rw [hacc.out, hm] at this; exact this
     rw [hm] at hhas
     have hkl : k < (a.nf.far0 k).length := by rw [a.nf.far0_len, hnH.out]; exact hlt
     have hck2 := intC_cell (i := k) (v := -1) hF1.out (by simp [hkl])
     have hfr2 := hF1.out.frozen k
     have hlk2 := hF1.out.lt
     have hF2 := hide (intC_put hF1.out k 0)
     have hK2 := hide (hK1.out.setCell (p := ⟨gf, k, none⟩) (fun _ => rfl) (.int .i64 0))
     clear hm
     go_wp2_with fail
     refine hhas.mono ?_
     rintro e w' ⟨rfl, rfl⟩
     go_wp2_with fail
     exact ⟨⟨k + 1, by go_num, by omega, by rw [← hst2.out]; have := hF2.out; rwa [List.set_set] at this, hK2⟩, by simp [intOf]; omega⟩
   ·obtain rfl : k = n := by omega
    have hR0 : Hid (a.nf.Rel a.es (a.nf.far0 k) 1 0) := by
     have := NF.rel0 a.nf a.es
     rw [hnH.out] at this
     exact this
    go_wp2_with fail
    go_loopw [8] (fun ii wz => ∃ (d : Nat) (far : List Int), ii = .int .i64 (d : Int) ∧ 1 ≤ d ∧ d ≤ k + 1 ∧ Hid (Blk wz gf 3 (intC far)) ∧ Hid (a.nf.Rel a.es far d 0) ∧ Hid (Kept w3 wz (fun k => k = gf))) (fun ii _ => k + 2 - (intOf ii).toNat)
    case atStart => exact ⟨1, _, rfl, Nat.le_refl _, by omega, hF, hR0, hK⟩
    case round =>
     rename World => wz
     obtain ⟨d, far, rfl, hd1, hd2, hFz, hRz, hKz⟩ := hrel
     have hcz := (hB3.out.kept hKz.out (by omega)).cell
     by_cases hdn : d ≤ k
     ·go_wp2_with fail
      go_loopw [9] (fun ii wy => ∃ (j : Nat) (far : List Int), ii = .int .i64 (j : Int) ∧ j ≤ ne ∧ Hid (Blk wy gf 3 (intC far)) ∧ Hid (a.nf.Rel a.es far d j) ∧ Hid (Kept w3 wy (fun k => k = gf))) (fun ii _ => ne - (intOf ii).toNat)
      case atStart => exact ⟨0, far, rfl, Nat.zero_le _, hFz, hRz, hKz⟩
      case round =>
       rename World => wy
       obtain ⟨j, far, rfl, hj, hFy, hRy, hKy⟩ := hrel
       have hcy := (hB3.out.kept hKy.out (by omega)).cell
       have hb0y := hide (hb03.out.trans (hKy.out.below (B := w.heap.size) (by omega) (fun b hb e => by omega)))
       by_cases hjn : j < ne
       ·obtain ⟨b, off, e, rfl, hbk, hxe, hc⟩ := h3H.out.at (k := j) (by rw [← hneH.out]; exact hjn)
        have hcc := fun i hi => (hb0y.out.cell (by exact hbk)).trans (hc i hi)
        have q0 := hcc 0 (by omega)
        have q1 := hcc 1 (by omega)
        have q2 := hcc 2 (by omega)
        simp only [Nat.add_zero, encE] at q0 q1 q2
        obtain ⟨i1, i2, i3⟩ := hinH.out.edge e (List.mem_of_getElem? hxe)
        obtain ⟨f, hf, hfn⟩ := inN_nat i1
        obtain ⟨t, ht, htn⟩ := inN_nat i3
        have hann : a.states.toNat = k := by have := hnH.out; rw [a.nf_n] at this; exact this
        rw [hann] at hfn htn
        have hes : Hid (a.es[j]? = some (f, t)) := by
         have := map_get (f := fun e : Edg => (e.frm.toNat, e.to.toNat)) hxe
         rw [hf, ht] at this
         exact this
        have hfl : far.length = k := by rw [hRy.out.len, hnH.out]
        obtain ⟨zf, hzf⟩ := get_lt (l := far) (i := f) (by omega)
        obtain ⟨zt, hzt⟩ := get_lt (l := far) (i := t) (by omega)
        obtain ⟨wb, hwb, hbb, hBb, hkb⟩ := box_blk wy #[.int .i64 e.frm, .int .i64 e.letter, .int .i64 e.to] 35
        have hFb := hFy.out.below (hbb)
        have g1 := intC_cell hFb hzf
        have g2 := intC_cell hFb hzt
        have g3 := hFb.frozen f
        have g4 := hFb.lt
        have g5 := hBb.cell
        have hKb : Hid (Kept w3 wb (fun k => k = gf)) := hKy.out.trans hkb fun _ _ e => e.elim
        have hKs := hide (hKb.out.setCell (p := ⟨gf, f, none⟩) (fun _ => rfl) (.int .i64 (d : Int)))
        have hFs := hide (intC_put hFb f (d : Int))
        have hFbH := hide hFb
        have hst := hide (hRy.out.step hd1 (WA.es_edge hinH.out) hes.out)
        have hgf1 : Hid (far.getD f (-1) = zf) := getD_some hzf
        have hgt1 : Hid (far.getD t (-1) = zt) := getD_some hzt
        obtain ⟨x0, x1, x2⟩ := e
        dsimp only at *
        subst hf ht
        have hnil : f < k := hfn
        have hnit : t < k := htn
        rw [← hfl] at hnil hnit
        clear hxe hc hcc i1 i2 i3 hzf hzt hFb hbb hBb hkb hann
        by_cases t1 : zf < 0
        ·by_cases t2 : zt = (d : Int) - 1
         ·have hst2 : Hid (a.nf.Rel a.es (far.set f (d : Int)) d (j + 1)) := by
           have := hst.out
           rw [hgf1.out, hgt1.out, if_pos ⟨t1, t2⟩] at this
           exact this
          subst t2
          go_wp2_with fail
          exact ⟨⟨j + 1, _, by go_num, by omega, hFs, hst2, hKs⟩, by simp [intOf]; omega⟩
         ·have hst2 : Hid (a.nf.Rel a.es far d (j + 1)) := by
           have := hst.out
           rw [hgf1.out, hgt1.out, if_neg (fun h => t2 h.2)] at this
           exact this
          go_wp2_with fail
          exact ⟨⟨j + 1, _, by go_num, by omega, hFbH, hst2, hKb⟩, by simp [intOf]; omega⟩
        ·have hst2 : Hid (a.nf.Rel a.es far d (j + 1)) := by
          have := hst.out
          rw [hgf1.out, hgt1.out, if_neg (fun h => t1 h.1)] at this
          exact this
         go_wp2_with fail
         exact ⟨⟨j + 1, _, by go_num, by omega, hFbH, hst2, hKb⟩, by simp [intOf]; omega⟩
       ·obtain rfl : j = ne := by omega
        have hnx : Hid (a.nf.Rel a.es far (d + 1) 0) := by
         have := hRy.out
         rw [hneH.out, show a.edges.length = a.es.length by simp [WA.es]] at this
         exact this.next hd1 (WA.es_edge hinH.out)
        go_wp2_with fail
        exact ⟨⟨d + 1, far, by go_num, by omega, by omega, hFy, hnx, hKy⟩, by simp [intOf]; omega⟩
     ·obtain rfl : d = k + 1 := by omega
      have hFar : Hid (a.nf.Far far) := by
       have := hRz.out
       rw [← hnH.out] at this
       exact this.isFar
      go_wp2_with fail
      have hb0z := hide (hb03.out.trans (hKz.out.below (B := w.heap.size) (by omega) (fun b hb e => by omega)))
      have hge := hide hFar.out.ge
      have hfl : far.length = k := by rw [hFar.out.len, hnH.out]
      have hflH := hide hfl
      have hok : a.nf.OK := WA.nf_ok hinH.out
      have hokN := hide hok
      have hdone : Hid (∀ b : Int, b = bestI far (-1) (a.start.take ns) → b = bestI far (-1) a.nf.start) := fun b e => by rw [e, hnsH.out, List.take_length]; rfl
      clear hfl hok
      go_loop [11, 12] (fun bb kk => ∃ (i : Nat), bb = .int .i64 (bestI far (-1) (a.start.take i)) ∧ kk = .int .i64 (i : Int) ∧ i ≤ ns) (fun _ kk => ns - (intOf kk).toNat)
      case atStart => exact ⟨0, rfl, rfl, Nat.zero_le _⟩
      case round =>
       obtain ⟨i, rfl, rfl, hi⟩ := hrel
       by_cases hin : i < ns
       ·obtain ⟨x, hx⟩ := get_lt (l := a.start) (i := i) (by rw [← hnsH.out]; exact hin)
        obtain ⟨b, off, rfl, hbk, hc⟩ := sl_intat h1H.out hx
        have hcr := (hb0z.out.cell (p := ⟨b, off + i, none⟩) hbk).trans hc
        obtain ⟨q, rfl, hq⟩ := inN_nat (hinH.out.start x (List.mem_of_getElem? hx))
        have hann : a.states.toNat = k := by have := hnH.out; rw [a.nf_n] at this; exact this
        rw [hann] at hq
        obtain ⟨z, hz⟩ := get_lt (l := far) (i := q) (by rw [hflH.out]; exact hq)
        have hcf := intC_cell hFz.out hz
        have hst := hide (bestI_step (far := far) (b := -1) hx)
        have hzz : Hid (far.getD ((q : Int)).toNat (-1) = z) := by show _ = _; rw [Int.toNat_natCast, getD_some hz]
        have hzg : -1 ≤ z := by have := hge.out q; rw [getD_some hz] at this; exact this
        obtain ⟨bb, hbb⟩ : ∃ bb, bb = bestI far (-1) (a.start.take i) := ⟨_, rfl⟩
        rw [← hbb]
        have hbbH := hide hbb
        clear hx hc hz hbb hann
        have fin : ∀ b' : Int, (b' = if 0 ≤ z ∧ (bb < 0 ∨ z < bb) then z else bb) → b' = bestI far (-1) (a.start.take (i + 1)) := fun b' e => by rw [e, hst.out, hzz.out, ← hbbH.out]
        have finH := hide fin
        clear fin
        by_cases t1 : 0 ≤ z
        ·by_cases t2 : bb < 0
         ·go_wp2_with fail
          exact ⟨⟨i + 1, by rw [← finH.out z (by rw [if_pos ⟨t1, .inl t2⟩])], by go_num, by omega⟩, by simp [intOf]; omega⟩
         ·by_cases t3 : z < bb
          ·go_wp2_with fail
           exact ⟨⟨i + 1, by rw [← finH.out z (by rw [if_pos ⟨t1, .inr t3⟩])], by go_num, by omega⟩, by simp [intOf]; omega⟩
          ·go_wp2_with fail
           exact ⟨⟨i + 1, by rw [← finH.out bb (by rw [if_neg (by omega)])], by go_num, by omega⟩, by simp [intOf]; omega⟩
        ·go_wp2_with fail
         exact ⟨⟨i + 1, by rw [← finH.out bb (by rw [if_neg (by omega)])], by go_num, by omega⟩, by simp [intOf]; omega⟩
       ·obtain rfl : ns = i := by omega
        obtain ⟨b, hb⟩ : ∃ b, b = bestI far (-1) (a.start.take ns) := ⟨_, rfl⟩
        have hbI := hide (hdone.out b hb)
        have hsp := hide (bestI_spec hge.out a.nf.start (-1) (by omega))
        rw [← hb]
        clear hb
        by_cases hneg : b < 0
        ·have hRn : Hid (a.nf.shortR far = none) := by show _ = _; unfold NF.shortR; rw [if_pos (by rw [← hbI.out]; exact hneg)]
         go_wp2_with fail
         refine bodyPost_ret (v := .tuple #[.slice none 0 0, .bool false, .int .i64 0]) (by simp [results, Tryd.results27, go_sem]) rfl ⟨hb0z.out, .inr ⟨hokH.out, far, hFar.out, .inl ⟨hRn.out, rfl⟩⟩⟩
        ·obtain ⟨l, rfl⟩ := Int.eq_ofNat_of_zero_le (show 0 ≤ b by omega)
         have hRs : Hid (a.nf.shortR far = some (a.nf.shortW far l (cutM far a.nf.st l))) := by show _ = _; unfold NF.shortR; rw [← hbI.out, if_neg hneg, Int.toNat_natCast]
         have hLev := hide (NF.start_lev hFar.out hokN.out hbI.out.symm)
         have hl8 : l ≤ 400 := by
          obtain ⟨q, hq, hm⟩ := hLev.out.ne
          have h1 := (hLev.out.all q hq hm).lt hq
          rw [hnH.out] at h1
          omega
         obtain ⟨gs, w5, hmk5, hbl5, hb5, hg5⟩ := mk_bools wz k (by omega)
         rw [marks_new] at hbl5
         have hM0 : Hid (Blk w5 gs 4 ((a.nf.stM far (l : Int) 0).map Value.bool).toArray) := by
          show Blk _ _ _ _
          rw [NF.stM_zero, hnH.out]
          exact hbl5
         have hF5 := hide (hFz.out.below hb5)
         have hB5 := hide ((hB3.out.kept hKz.out (by omega)).below hb5)
         have hb05 := hide (hb0z.out.trans (hb5.mono hb0z.out.size))
         have hgf5 : gf < wz.heap.size := hFz.out.lt
         have hws : w.heap.size < wz.heap.size := (hB3.out.kept hKz.out (by omega)).lt
         clear hsp hneg hbl5 hb5
         go_wp2_with fail
         go_loopw [15] (fun kk wx => ∃ (i : Nat), kk = .int .i64 (i : Int) ∧ i ≤ ns ∧ Hid (Blk wx gs 4 ((a.nf.stM far (l : Int) i).map Value.bool).toArray) ∧ Hid (Kept w5 wx (fun k => k = gs))) (fun kk _ => ns - (intOf kk).toNat)
         case atStart => exact ⟨0, rfl, Nat.zero_le _, hM0, Kept.refl _ _⟩
         case round =>
          rename World => wx
          obtain ⟨i, rfl, hi, hM, hKx⟩ := hrel
          have hb0x := hide (hb05.out.trans (hKx.out.below (B := w.heap.size) (by have := hb05.out.size; omega) (fun b hb e => by omega)))
          have hBx := hide (hB5.out.kept hKx.out (by omega))
          have hFx := hide (hF5.out.kept hKx.out (by omega))
          have hcx := hBx.out.cell
          by_cases hin : i < ns
          ·obtain ⟨x, hx⟩ := get_lt (l := a.start) (i := i) (by rw [← hnsH.out]; exact hin)
           obtain ⟨b, off, rfl, hbk, hc⟩ := sl_intat h1H.out hx
           have hcr := (hb0x.out.cell (p := ⟨b, off + i, none⟩) hbk).trans hc
           obtain ⟨q, rfl, hq⟩ := inN_nat (hinH.out.start x (List.mem_of_getElem? hx))
           have hann : a.states.toNat = k := by have := hnH.out; rw [a.nf_n] at this; exact this
           rw [hann] at hq
           obtain ⟨z, hz⟩ := get_lt (l := far) (i := q) (by rw [hflH.out]; exact hq)
           have hcf := intC_cell hFx.out hz
           have hst := hide (NF.stM_step (a := a.nf) (far := far) (b := (l : Int)) hx)
           have hzz : Hid (far.getD q (-1) = z) := getD_some hz
           have hml : q < (a.nf.stM far (l : Int) i).length := by rw [a.nf.stM_len, hnH.out]; exact hq
           obtain ⟨bq, hbq⟩ := get_lt hml
           have hcm := Marks.cell hM.out hbq
           have hfm := hM.out.frozen q
           have hlm := hM.out.lt
           have hM1 := hide (boolC_put hM.out q true)
           have hK1 := hide (hKx.out.setCell (p := ⟨gs, q, none⟩) (fun _ => rfl) (.bool true))
           clear hx hc hz hann hml hbq
           by_cases t1 : z = (l : Int)
           ·have hst2 : Hid (a.nf.stM far (l : Int) (i + 1) = (a.nf.stM far (l : Int) i).set q true) := by show _ = _; rw [hst.out, hzz.out, if_pos t1]
            subst t1
            go_wp2_with fail
            exact ⟨⟨i + 1, by go_num, by omega, by rw [hst2.out]; exact hM1, hK1⟩, by simp [intOf]; omega⟩
           ·have hst2 : Hid (a.nf.stM far (l : Int) (i + 1) = a.nf.stM far (l : Int) i) := by show _ = _; rw [hst.out, hzz.out, if_neg t1]
            go_wp2_with fail
            exact ⟨⟨i + 1, by go_num, by omega, by rw [hst2.out]; exact hM, hKx⟩, by simp [intOf]; omega⟩
          ·have hMm : Hid (Marks wx wx.heap.size (.slice (some ⟨gs, 0, none⟩) k k) (cutM far a.nf.st l)) := by
            have hMo := hM.out
            rw [NF.stM_all (by have := hnsH.out; show a.start.length ≤ i; omega)] at hMo
            have hlen : (cutM far a.nf.st l).length = k := by simp [cutM, a.nf.st_len, hnH.out]
            exact ⟨gs, hMo.lt, by rw [hlen], hMo⟩
           have htot : Hid ([] ++ a.nf.shortW far l (cutM far a.nf.st l) = a.nf.shortW far l (cutM far a.nf.st l)) := rfl
           have hwl : Hid ((a.nf.shortW far l (cutM far a.nf.st l)).length = l) := (NF.shortW_spec hFar.out l _ hLev.out).2.1
           obtain ⟨tot, htt⟩ : ∃ tot, tot = a.nf.shortW far l (cutM far a.nf.st l) := ⟨_, rfl⟩
           rw [← htt] at hRs hwl
           have htot : Hid ([] ++ a.nf.shortW far l (cutM far a.nf.st l) = tot) := by show _ = _; rw [htt]; rfl
           have hcm0 : Hid ((cutM far a.nf.st l).length = k) := by show _ = _; simp [cutM, a.nf.st_len, hnH.out]
           have hbase : w5.heap.size ≤ wx.heap.size := hKx.out.size
           have hgf6 : gf < w5.heap.size := by have := hF5.out.lt; exact this
           clear htt
           go_wp2_with fail
           go_loopw [11, 14, 16] (fun ll ss ww wv => ∃ (left : Nat) (m : List Bool) (us : List Nat), ll = .int .i64 (left : Int) ∧ left ≤ 400 ∧ us.length + left = l ∧ Hid (Marks wv wv.heap.size ss m) ∧ Hid (m.length = k) ∧ Hid (wv.ownsRow w5.heap.size 3 1 ww us.length ((natL us).map (Value.int .i64))) ∧ Hid (a.nf.Lev far m left) ∧ Hid (us ++ a.nf.shortW far left m = tot) ∧ Hid (Blk wv gf 3 (intC far)) ∧ Hid (Blk wv w.heap.size 25 #[.int .i64 a.letters, .int .i64 (k : Int), .slice A1 ns c1, .slice A2 a.accept.length c2, .slice A3 ne c3]) ∧ Hid (Below w.heap.size w wv) ∧ w5.heap.size ≤ wv.heap.size) (fun ll _ _ _ => (intOf ll).toNat)
           case atStart => exact ⟨l, _, [], rfl, hl8, by simp, hMm, hcm0, own_nil, hLev, htot, hFx, hBx, hb0x, hbase⟩
           case round =>
            rename World => wv
            obtain ⟨left, m, us, rfl, hl4, hul, hMv, hml, hO, hLv, htv, hFv, hBv, hb0v, hbv⟩ := hrel
            have hcv := hBv.out.cell
            rcases left with _ | left
            ·have hus : Hid (us = tot) := by have := htv.out; rw [show a.nf.shortW far 0 m = [] from rfl, List.append_nil] at this; exact this
             obtain ⟨A7, c7, e7, hS7⟩ := own_slI (l := natL us) hO.out (by simp [natL]) (Nat.le_refl _) (by omega)
             have enl : (natL us).length = us.length := by simp [natL]
             rw [enl] at e7
             subst e7
             have hS7H := hide hS7
             clear hS7 enl
             go_wp2_with fail
             refine bodyPost_ret (v := .tuple #[.slice A7 us.length c7, .bool true, .int .i64 0]) (by simp [results, Tryd.results27, go_sem]) rfl ⟨hb0v.out, .inr ⟨hokH.out, far, hFar.out, .inr ⟨us, A7, c7, by rw [hus.out]; exact hRs.out, rfl, hS7H.out⟩⟩⟩
            ·obtain ⟨x0, hp, hx0, hLx, -⟩ := hLv.out.pick hFar.out
             have hsw : Hid (a.nf.shortW far (left + 1) m = x0 :: a.nf.shortW far left (cutM far (a.nf.after m x0) left)) := by show _ = _; rw [NF.shortW, hp]
             have hbest := hide (fun j (hj : a.edges.length ≤ j) => WA.bestE_pick hinH.out hp hj)
             have hLxH := hide hLx
             have hx0H := hide hx0
             have hann : a.states.toNat = k := by have := hnH.out; rw [a.nf_n] at this; exact this
             have hstates : Hid (a.states = (k : Int)) := by show _ = _; omega
             have hannH := hide hann
             obtain ⟨gm, hgm, rfl, hBm⟩ := hMv.out
             rw [hml.out]
             have hBmH := hide hBm
             have hmlH := hml
             clear hp hLx hBm hann
             go_wp2_with fail
             go_loopw [17, 18] (fun bb kk wu => ∃ (j : Nat), bb = .int .i64 (a.bestE far m (left : Int) j) ∧ kk = .int .i64 (j : Int) ∧ j ≤ ne ∧ Hid (Below wv.heap.size wv wu)) (fun _ kk _ => ne - (intOf kk).toNat)
             case atStart => exact ⟨0, rfl, rfl, Nat.zero_le _, Below.refl _ _⟩
             case round =>
              rename World => wu
              obtain ⟨j, rfl, rfl, hj, hbu⟩ := hrel
              have hb0u := hide (hb0v.out.trans (hbu.out.mono hb0v.out.size))
              have hBu := hide (hBv.out.below (hbu.out.mono (by have := hb0v.out.size; first | exact Nat.le_refl _ | omega)))
              have hFu := hide (hFv.out.below (hbu.out.mono (by first | exact Nat.le_refl _ | omega)))
              have hmu := hide (hBmH.out.below (hbu.out.mono (by first | exact Nat.le_refl _ | omega)))
              have hcu := hBu.out.cell
              by_cases hjn : j < ne
              ·obtain ⟨b, off, e, rfl, hbk, hxe, hc⟩ := h3H.out.at (k := j) (by rw [← hneH.out]; exact hjn)
               have hcc := fun i hi => (hb0u.out.cell (by exact hbk)).trans (hc i hi)
               have q0 := hcc 0 (by omega)
               have q1 := hcc 1 (by omega)
               have q2 := hcc 2 (by omega)
               simp only [Nat.add_zero, encE] at q0 q1 q2
               obtain ⟨i1, i2, i3⟩ := hinH.out.edge e (List.mem_of_getElem? hxe)
               obtain ⟨f, hf, hfn⟩ := inN_nat i1
               obtain ⟨t, ht, htn⟩ := inN_nat i3
               rw [hannH.out] at hfn htn
               obtain ⟨bm, hbm⟩ := get_lt (l := m) (i := f) (by rw [hmlH.out]; exact hfn)
               obtain ⟨zt, hzt⟩ := get_lt (l := far) (i := t) (by rw [hflH.out]; exact htn)
               obtain ⟨wb, hwb, hbb, hBb, hkb⟩ := box_blk wu #[.int .i64 e.frm, .int .i64 e.letter, .int .i64 e.to] 35
               have g1 := Marks.cell (hmu.out.below hbb) hbm
               have g2 := intC_cell (hFu.out.below hbb) hzt
               have g5 := hBb.cell
               have hbub := hide (hbu.out.trans (hbb.mono hbu.out.size))
               have hst := hide (WA.bestE_step (a := a) (far := far) (m := m) (l := (left : Int)) hxe)
               have hgm1 : Hid (m.getD e.frm.toNat false = bm) := by show _ = _; rw [hf, Int.toNat_natCast, getD_some hbm]
               have hgt1 : Hid (far.getD e.to.toNat (-1) = zt) := by show _ = _; rw [ht, Int.toNat_natCast, getD_some hzt]
               obtain ⟨bb, hbb2⟩ : ∃ bb, bb = a.bestE far m (left : Int) j := ⟨_, rfl⟩
               rw [← hbb2]
               have hbbH := hide hbb2
               have fin : ∀ b' : Int, (b' = if bm = true ∧ zt = (left : Int) ∧ e.letter < bb then e.letter else bb) → b' = a.bestE far m (left : Int) (j + 1) := fun b' h => by rw [h, hst.out, hgm1.out, hgt1.out, ← hbbH.out]
               have finH := hide fin
               obtain ⟨x0', x1, x2⟩ := e
               dsimp only at *
               subst hf ht
               have hnit : t < far.length := by rw [hflH.out]; exact htn
               clear hxe hc hcc i1 i2 i3 hbm hzt hbb hBb hkb hbb2 fin hst hgm1 hgt1 hbbH
               cases bm with
               | false =>
                go_wp2_with fail
                exact ⟨⟨j + 1, by rw [← finH.out bb (by simp)], by go_num, by omega, hbub⟩, by simp [intOf]; omega⟩
               | true =>
                by_cases t2 : zt = (left : Int)
                ·subst t2
                 by_cases t3 : x1 < bb
                 ·go_wp2_with fail
                  exact ⟨⟨j + 1, by rw [← finH.out x1 (by simp [t3])], by go_num, by omega, hbub⟩, by simp [intOf]; omega⟩
                 ·go_wp2_with fail
                  exact ⟨⟨j + 1, by rw [← finH.out bb (by simp [t3])], by go_num, by omega, hbub⟩, by simp [intOf]; omega⟩
                ·have t4 : ¬ zt = (left : Int) + 1 - 1 := by omega
                 go_wp2_with fail
                 first | exact ⟨⟨j + 1, by rw [← finH.out bb (by simp [t2])], by go_num, by omega, hbub⟩, by simp [intOf]; omega⟩ | exact ⟨⟨j + 1, finH.out bb (by simp [t2]), by omega, by omega⟩, by simp [intOf]; omega⟩
              ·obtain rfl : ne = j := by omega
               have hbe : Hid (a.bestE far m (left : Int) ne = (x0 : Int)) := hbest.out ne (by have := hneH.out; omega)
               rw [hbe.out]
               have hMu : Marks wu wu.heap.size (.slice (some ⟨gm, 0, none⟩) k k) m := ⟨gm, hmu.out.lt, by rw [hmlH.out], hmu.out⟩
               have haf := after_any (hWA.out.keep (w' := wu) (fun p hp => hb0u.out.cell hp) hb0u.out.size) hinH.out ⟨o3, by omega⟩ hMu (by rw [hmlH.out]; exact hannH.out.symm) hx0H.out
               rw [← hneH.out, ← hnsH.out, hstates.out] at haf
               go_wp2_with fail
               refine Calls.ret haf ?_
               rintro vx w7 ⟨hb7, hM7, hfresh⟩
               obtain ⟨m', hm'⟩ : ∃ m', m' = a.nf.after m x0 := ⟨_, rfl⟩
               rw [← hm'] at hM7 hLxH hsw
               have hml' : m'.length = k := by rw [hm', a.nf.after_len, hnH.out]
               obtain ⟨gn, hgn, rfl, hBn⟩ := hM7
               have hgn7 : wu.heap.size ≤ gn := hfresh gn rfl
               rw [hml']
               have hb07 := hide (hb0u.out.trans (hb7.mono hb0u.out.size))
               have hbv7 := hide (hbu.out.trans (hb7.mono hbu.out.size))
               have hB7 := hide (hBv.out.below hbv7.out)
               have hF7 := hide (hFv.out.below hbv7.out)
               have hO7 := hide (own_below hO.out hbv7.out)
               have hc7 := hB7.out.cell
               have sv7 := hbv7.out.size
               have svu := hbu.out.size
               have hP0 : Hid (Blk w7 gn 4 ((cutP far m' (left : Int) 0).map Value.bool).toArray) := by show Blk _ _ _ _; rw [cutP_zero]; exact hBn
               have hml'H := hide hml'
               clear haf hb7 hBn hfresh hMu hm' hml'
               go_wp2_with fail
               go_loopw [21] (fun kk wt => ∃ i : Nat, kk = .int .i64 (i : Int) ∧ i ≤ k ∧ Hid (Blk wt gn 4 ((cutP far m' (left : Int) i).map Value.bool).toArray) ∧ Hid (Kept w7 wt (fun k => k = gn))) (fun kk _ => k - (intOf kk).toNat)
               case atStart => exact ⟨0, rfl, Nat.zero_le _, hP0, Kept.refl _ _⟩
               case round =>
                rename World => wt
                obtain ⟨i, rfl, hi, hP, hKt⟩ := hrel
                have hgf7 : gf < gn := by omega
                have hBt := hide (hB7.out.kept hKt.out (by omega))
                have hFt := hide (hF7.out.kept hKt.out (by omega))
                have hct := hBt.out.cell
                by_cases hin : i < k
                ·have him : i < m'.length := by rw [hml'H.out]; exact hin
                 obtain ⟨bi, hbi⟩ := get_lt him
                 obtain ⟨zi, hzi⟩ := get_lt (l := far) (i := i) (by rw [hflH.out]; exact hin)
                 have hgm1 : m'.getD i false = bi := getD_some hbi
                 have hcg := cutP_get (far := far) (l := (left : Int)) (i := i) him
                 rw [if_neg (Nat.lt_irrefl _), hgm1] at hcg
                 have g1 := Marks.cell hP.out hcg
                 have g2 := intC_cell hFt.out hzi
                 have g3 := hP.out.frozen i
                 have g4 := hP.out.lt
                 have hstep := hide (cutP_step (far := far) (l := (left : Int)) him)
                 have hgz : Hid (far.getD i (-1) = zi) := getD_some hzi
                 have hgmH := hide hgm1
                 have hifl : i < far.length := by rw [hflH.out]; exact hin
                 have hput := hide (fun v => boolC_put hP.out i v)
                 have hkp := hide (fun v => hKt.out.setCell (p := ⟨gn, i, none⟩) (fun _ => rfl) v)
                 clear hbi hzi hgm1 hcg him
                 cases bi with
                 | false =>
                  have hst2 : Hid (cutP far m' (left : Int) (i + 1) = (cutP far m' (left : Int) i).set i false) := by show _ = _; rw [hstep.out, hgmH.out]; rfl
                  go_wp2_with fail
                  exact ⟨⟨i + 1, by go_num, by omega, by rw [hst2.out]; exact hput.out false, hkp.out _⟩, by simp [intOf]; omega⟩
                 | true =>
                  by_cases t2 : zi = (left : Int)
                  ·have hst2 : Hid (cutP far m' (left : Int) (i + 1) = (cutP far m' (left : Int) i).set i true) := by show _ = _; rw [hstep.out, hgmH.out, hgz.out, decide_eq_true t2]; rfl
                   subst t2
                   go_wp2_with fail
                   exact ⟨⟨i + 1, by go_num, by omega, by rw [hst2.out]; exact hput.out true, hkp.out _⟩, by simp [intOf]; omega⟩
                  ·have hst2 : Hid (cutP far m' (left : Int) (i + 1) = (cutP far m' (left : Int) i).set i false) := by show _ = _; rw [hstep.out, hgmH.out, hgz.out, decide_eq_false t2]; rfl
                   go_wp2_with fail
                   exact ⟨⟨i + 1, by go_num, by omega, by rw [hst2.out]; first | exact hput.out false | (rw [show (zi == (left : Int)) = false by simpa using t2]; exact hput.out false), hkp.out _⟩, by simp [intOf]; omega⟩
                ·obtain rfl : k = i := by omega
                 have hPf := hP.out
                 rw [cutP_all (by rw [hml'H.out]; exact Nat.le_refl _)] at hPf
                 have hOt := hKt.out.ownsRow hO7.out fun g hg e => by have := own_lt hO.out hg; omega
                 obtain ⟨AU, cU, rfl⟩ := slice_of_own hOt
                 have hul8 : us.length ≤ 400 := by omega
                 have hbt := hKt.out.size
                 have hPH := hide hPf
                 have hb0t := hide (hb07.out.trans (hKt.out.below (B := w.heap.size) (by have := hb07.out.size; omega) (fun b hb e => by have := hb0v.out.size; omega)))
                 have hltH := hide (fun g (e : (Value.slice AU us.length cU).ownBlock = some g) => And.intro (own_base hOt e) (own_lt hO.out e))
                 clear hPf
                 go_wp2_with (
                  at_builtin
                  refine wpList_app_new (w := wt) row3 rfl _ _ rfl w5.heap.size (.slice AU us.length cU) us.length _ rfl hOt [.int .i64 (x0 : Int)] 1 rfl rfl (by simp [Value.oneCell']) (by omega) (by omega) ?_
                  intro ga capa wq howna hka hmva hga)
                 have sq := hka.size
                 have hFq := hide (hFt.out.kept hka (fun e => by have := (hltH.out gf e).1; omega))
                 have hBq := hide (hBt.out.kept hka (fun e => by have := (hltH.out _ e).1; have := hb05.out.size; omega))
                 have hgwv : wv.heap.size ≤ gn := by omega
                 have hPq := hide (hPH.out.kept hka (fun e => by have := (hltH.out _ e).2; omega))
                 have hb0q := hide (hb0t.out.trans (hka.below (by have := hb0t.out.size; omega) fun b hb e => by have := (hltH.out _ e).1; have := hb05.out.size; omega))
                 have hMq : Hid (Marks wq wq.heap.size (.slice (some ⟨gn, 0, none⟩) k k) (cutM far m' left)) := ⟨gn, hPq.out.lt, by rw [show (cutM far m' left).length = k by simp [cutM, hml'H.out]], hPq.out⟩
                 have hOq : Hid (wq.ownsRow w5.heap.size 3 1 (.slice (some ⟨ga, 0, none⟩) (us.length + 1) capa) (us ++ [x0]).length ((natL (us ++ [x0])).map (Value.int .i64))) := by
                  show World.ownsRow _ _ _ _ _ _ _
                  rw [List.length_append, List.length_singleton, show (natL (us ++ [x0])).map (Value.int .i64) = (natL us).map (Value.int .i64) ++ [.int .i64 (x0 : Int)] by simp [natL]]
                  exact howna
                 have htq : Hid ((us ++ [x0]) ++ a.nf.shortW far left (cutM far m' left) = tot) := by
                  have := htv.out
                  rw [hsw.out] at this
                  show _ = _
                  rw [List.append_assoc]
                  exact this
                 clear howna hka hmva
                 go_wp2_with fail
                 exact ⟨⟨left, cutM far m' left, us ++ [x0], by go_num, by omega, by rw [List.length_append, List.length_singleton]; omega, hMq, by show _ = _; simp [cutM, hml'H.out], hOq, hLxH, htq, hFq, hBq, hb0q, by omega⟩, by simp [intOf]⟩
end Go.Proofs.YtpmceapjnnkhjaaDoor
