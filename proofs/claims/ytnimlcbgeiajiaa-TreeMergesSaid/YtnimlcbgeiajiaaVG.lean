/-
  Operations that make memory, at any world: what they lay is known by blocks alone; the regions of a function's text as pieces of their own.
  The reference's tables in memory: what a reader finds, and what a writer needs.
  The reference's blank: its rows are made, in whatever order; the memory of its loops.
  The reference's blank: the walk.
  The reference's small functions: has, holds, empty.
  The reference's kinds: the walk.
  The reference's alike: the walk.
-/
import Derived.Test.YtnimlcbgeiajiaaQA
import Derived.Test.YtnimlcbgeiajiaaVE
import Derived.Test.YtnimlcbgeiajiaaQB
import Derived.Test.YtnimlcbgeiajiaaQD

namespace Go.Proofs.Ytnimlcbgeiajiaa
open Go.RowKit

def regionsOf : Code → List Code
  | .region i o d => [.region i o d]
  | .loop c => regionsOf c
  | .seq a b => regionsOf a ++ regionsOf b
  | .block _ c => regionsOf c
  | .scope c => regionsOf c
  | .cond _ a b => regionsOf a ++ regionsOf b
  | _ => []
def regionAt (f : Func) (k : Nat) : Code := match f.body with
  | some c => (regionsOf c).getD k .skip
  | none => .skip

/-- Blocks that were laid since. -/
structure AllB (w0 w : World) (l : List (Nat × TypeId × Array Value)) : Prop where
  below : Below w0.heap.size w0 w
  blk : ∀ x ∈ l, Blk w x.1 x.2.1 x.2.2 ∧ w0.heap.size ≤ x.1
  nodup : (l.map (·.1)).Nodup
theorem AllB.nil (w : World) : AllB w w [] := ⟨Below.refl _ _, fun _ h => by simp at h, by simp⟩
theorem AllB.add {w0 w w1 : World} {l : List (Nat × TypeId × Array Value)} (h : AllB w0 w l) (hb : Below w.heap.size w w1) {g : Nat} {e : TypeId} {cs : Array Value} (hg : Blk w1 g e cs) (hs : w.heap.size ≤ g) : AllB w0 w1 ((g, e, cs) :: l) := by
  refine ⟨h.below.trans (hb.mono h.below.size), fun x hx => ?_, ?_⟩
  · rcases List.mem_cons.1 hx with rfl | hx
    · exact ⟨hg, Nat.le_trans h.below.size hs⟩
    · exact ⟨(h.blk x hx).1.below hb, (h.blk x hx).2⟩
  · rw [List.map_cons, List.nodup_cons]
    refine ⟨fun hx => ?_, h.nodup⟩
    obtain ⟨x, hx, e⟩ := List.mem_map.1 hx
    have := (h.blk x hx).1.lt
    dsimp only at e
    omega
theorem AllB.drew {w0 w : World} {l : List (Nat × TypeId × Array Value)} (h : AllB w0 w l) : AllB w0 w.drew l :=
  ⟨h.below.trans ((drew_below w).mono h.below.size), h.blk, h.nodup⟩

theorem AllB.pick {w0 w : World} {l : List (Nat × TypeId × Array Value)} (h : AllB w0 w l) (l' : List (Nat × TypeId × Array Value)) (hl : ∀ x ∈ l', x ∈ l) (hn : (l'.map (·.1)).Nodup) : AllB w0 w l' :=
  ⟨h.below, fun x hx => h.blk x (hl x hx), hn⟩
def set3 (w : World) (g : Nat) (v0 v1 v2 : Value) : World := ((w.setCell ⟨g, 0, none⟩ v0).setCell ⟨g, 1, none⟩ v1).setCell ⟨g, 2, none⟩ v2
theorem AllB.set3 {w0 w : World} {l : List (Nat × TypeId × Array Value)} {g : Nat} {e : TypeId} {a b c : Value} (h : AllB w0 w ((g, e, #[a, b, c]) :: l)) (v0 v1 v2 : Value) : AllB w0 (set3 w g v0 v1 v2) ((g, e, #[v0, v1, v2]) :: l) := by
  have hg := (h.blk _ List.mem_cons_self)
  have hk : Kept w (Go.Proofs.Ytnimlcbgeiajiaa.set3 w g v0 v1 v2) (fun k => k = g) := (((Kept.refl w (fun k => k = g)).setCell (p := ⟨g, 0, none⟩) (fun _ => rfl) _).setCell (p := ⟨g, 1, none⟩) (fun _ => rfl) _).setCell (p := ⟨g, 2, none⟩) (fun _ => rfl) _
  have hb := (((hg.1.set_ 0 v0).set_ 1 v1).set_ 2 v2)
  refine ⟨h.below.trans (hk.below h.below.size fun b hb e => by have := hg.2; dsimp only at this; omega), fun x hx => ?_, h.nodup⟩
  rcases List.mem_cons.1 hx with rfl | hx
  · exact ⟨hb, hg.2⟩
  · have h1 := h.blk x (List.mem_cons_of_mem _ hx)
    refine ⟨Blk.kept h1.1 hk fun e => ?_, h1.2⟩
    have h2 := h.nodup
    rw [List.map_cons, List.nodup_cons] at h2
    exact h2.1 (List.mem_map.2 ⟨x, hx, e⟩)

section
variable {P : Program} {ops : Array Oper} {rest : List Oper} {o : Oper} {a : Act} {Q : Exit → Act → World → Prop}
theorem wpList_make {w : World} {t e bytes sz : Nat} {z : Value} (ht : P.underlying t = some (.slice e)) (hi : (P.info? e).map (fun i => (i.zero, i.size, i.bytes)) = some (some z, sz, bytes)) (hb : bytes ≤ 200) (hsz : sz ≤ 200)
    (n : Nat) (hn : n ≤ 80000) (hgd : o.guard = none) (x y : Operand) (ho : o.op = .makeSlice t x y) (hx : a.eval x = .int .i64 n) (hy : a.eval y = .int .i64 n)
    (h : ∀ g w1, Blk w1 g e (madeCells z.cells (n * sz)) → Below w.heap.size w w1 → w.heap.size ≤ g → wpList P ops Q rest (a.put o.dst (.slice (some ⟨g, 0, none⟩) n n)) w1) : wpList P ops Q (o :: rest) a w := by
  refine wpList_plain hgd fun K hK => ?_
  obtain ⟨i, h1, h2, h3, h4⟩ := info_parts hi
  have hb' : bytes * n ≤ 200 * 80000 := Nat.mul_le_mul hb hn
  have hb2 : (i.bytes : Int) * (n : Int) ≤ 281474976710656 := by
    rw [h4, ← Int.natCast_mul]; omega
  have hs' : n * sz ≤ 80000 * 200 := Nat.mul_le_mul hn hsz
  have hs2 : ((n : Int).toNat) * i.size ≤ 16000000 := by rw [h3, Int.toNat_natCast]; omega
  have hr := run_makeSlice (P := P) w t e i z ht h1 h2 .i64 .i64 n n (by omega) (Int.le_refl _) (by omega) hb2 (by omega)
  simp only [Int.toNat_natCast] at hr
  rw [h3] at hr
  unfold Oper.wp execOp
  simp only [ho, hx, hy, Sem.run_bind, Sem.run_pure, Result.andThen_ok, hr]
  exact hK _ _ (h _ _ (Blk.new _ _ _) ((Below.refl _ _).alloc (Nat.le_refl _) _) (Nat.le_refl _))
theorem wpList_alloc {w : World} {t bytes sz : Nat} {z : Value} (hi : (P.info? t).map (fun i => (i.zero, i.size, i.bytes)) = some (some z, sz, bytes))
    (hgd : o.guard = none) (ho : o.op = .alloc t)
    (h : ∀ g w1, Blk w1 g t z.cells → Below w.heap.size w w1 → w.heap.size ≤ g → wpList P ops Q rest (a.put o.dst (.pointer (some ⟨g, 0, none⟩))) w1) : wpList P ops Q (o :: rest) a w := by
  refine wpList_plain hgd fun K hK => ?_
  obtain ⟨i, h1, h2, h3, h4⟩ := info_parts hi
  have hr : (Instr.alloc t true (.tuple #[])).run P w = .ok (.pointer (some ⟨w.heap.size, 0, none⟩)) (w.alloc (.cells z.cells t)) := by
    simp [Instr.alloc, zeroValue, typeInfo, go_sem, h1, h2]
  unfold Oper.wp execOp
  simp only [ho, Sem.run_bind, Sem.run_pure, Result.andThen_ok, hr]
  exact hK _ _ (h _ _ (Blk.new _ _ _) ((Below.refl _ _).alloc (Nat.le_refl _) _) (Nat.le_refl _))
end
namespace Reg
theorem rest_walkE {P : Program} {Q : Post} {a : Act} {w : World} {l l1 : List Oper} {tab D T : List Nat} (T1 T2 : List Nat) (hT : T1 ++ T2 = T) (hl : pick l.toArray T1 = l1)
    (hc : (T1.all (fun i => decide (i < l.length)) && plainB P false l.toArray tab T1 && D.all (fun r => T1.all fun y => match l.toArray[r]?, l.toArray[y]? with
      | some q, some oy => !loadOp q.op || !eff P false oy || befT tab r y
      | _, _ => true)) = true)
    (h : ∀ Qf : Post, (∀ a w, Rest P l.toArray tab Q (T1 ++ D) T2 a w → Qf .normal a w) → wpList P l.toArray Qf l1 a w) : Rest P l.toArray tab Q D T a w := by
  subst hT
  exact rest_walk' T1 T2 hl hc h
end Reg
end Go.Proofs.Ytnimlcbgeiajiaa

namespace Go.Proofs.Ytnimlcbgeiajiaa
open Go.RowKit

theorem cell_lt' {w : World} {a : Addr} {v : Value} (h : w.cell? a = some v) : a.block < w.heap.size := by
  unfold World.cell? at h
  split at h
  · rename_i hh
    exact (Array.getElem?_eq_some_iff.1 hh).1
  · cases h

/-- What a reader of a table finds. -/
structure TblF (w : World) (L n : Nat) (vl vb va : Value) (lf : Nat → Nat) (br : Nat → Nat → Nat → Nat) (ac : Nat → Bool) : Prop where
  leaf : ∃ g c, vl = .slice (some ⟨g, 0, none⟩) L c ∧ ∀ x, x < L → w.cell? ⟨g, x, none⟩ = some (.int .i64 (lf x : Int))
  acc : ∃ g c, va = .slice (some ⟨g, 0, none⟩) n c ∧ ∀ q, q < n → w.cell? ⟨g, q, none⟩ = some (.bool (ac q))
  tab : ∃ (gv cv : Nat) (gi ci : Nat → Nat) (gj cj : Nat → Nat → Nat), vb = .slice (some ⟨gv, 0, none⟩) L cv ∧ ∀ x, x < L → w.cell? ⟨gv, x, none⟩ = some (.slice (some ⟨gi x, 0, none⟩) n (ci x)) ∧
    ∀ i, i < n → w.cell? ⟨gi x, i, none⟩ = some (.slice (some ⟨gj x i, 0, none⟩) n (cj x i)) ∧ ∀ k, k < n → w.cell? ⟨gj x i, k, none⟩ = some (.int .i64 (br x i k : Int))
theorem TblF.below {w w' : World} {L n : Nat} {vl vb va : Value} {lf : Nat → Nat} {br : Nat → Nat → Nat → Nat} {ac : Nat → Bool} (h : TblF w L n vl vb va lf br ac) (hB : Below w.heap.size w w') : TblF w' L n vl vb va lf br ac := by
  have c : ∀ {a : Addr} {v : Value}, w.cell? a = some v → w'.cell? a = some v := fun h => (hB.cell (cell_lt' h)).trans h
  obtain ⟨⟨g, cc, e, hl⟩, ⟨g2, c2, e2, ha⟩, gv, cv, gi, ci, gj, cj, e3, ht⟩ := h
  exact ⟨⟨g, cc, e, fun x hx => c (hl x hx)⟩, ⟨g2, c2, e2, fun q hq => c (ha q hq)⟩, gv, cv, gi, ci, gj, cj, e3, fun x hx => ⟨c (ht x hx).1, fun i hi => ⟨c ((ht x hx).2 i hi).1, fun k hk => c (((ht x hx).2 i hi).2 k hk)⟩⟩⟩

/-- A block's cells by number. -/
def rangeC (n : Nat) (f : Nat → Value) : Array Value := ((List.range n).map f).toArray
theorem rangeC_get {n i : Nat} (f : Nat → Value) (h : i < n) : (rangeC n f)[i]? = some (f i) := by simp [rangeC, h]
theorem rangeC_size (n : Nat) (f : Nat → Value) : (rangeC n f).size = n := by simp [rangeC]
theorem rangeC_set (n i : Nat) (f : Nat → Value) (v : Value) : (rangeC n f).setIfInBounds i v = rangeC n (fun x => if x = i then v else f x) := by
  apply Array.ext_getElem?
  intro j
  rw [Array.getElem?_setIfInBounds]
  by_cases hj : j < n
  · by_cases e : i = j
    · subst e
      rw [if_pos rfl, if_pos (by rw [rangeC_size]; exact hj), rangeC_get _ hj, if_pos rfl]
    · rw [if_neg e, rangeC_get _ hj, rangeC_get _ hj, if_neg (fun h => e h.symm)]
  · have e1 : ∀ g : Nat → Value, (rangeC n g)[j]? = none := fun g => Array.getElem?_eq_none (by rw [rangeC_size]; omega)
    rw [e1, e1]
    split
    · rw [if_neg (by rw [rangeC_size]; omega)]
    · rfl
theorem rangeC_congr {n : Nat} {f g : Nat → Value} (h : ∀ i, i < n → f i = g i) : rangeC n f = rangeC n g := by
  unfold rangeC
  rw [List.map_congr_left fun i hi => h i (List.mem_range.1 hi)]
theorem rangeC_rep (n : Nat) (z : Value) : Array.replicate n z = rangeC n fun _ => z := by
  apply Array.ext'
  simp [rangeC, List.map_const']

def up1 {D : Type} (f : Nat → D) (i : Nat) (v : D) : Nat → D := fun x => if x = i then v else f x
def up3 (f : Nat → Nat → Nat → Nat) (x i k v : Nat) : Nat → Nat → Nat → Nat := fun a b c => if a = x ∧ b = i ∧ c = k then v else f a b c

/-- What a writer of a table needs: all blocks of the table, all different. -/
structure TblW (w : World) (base L n gl ga gv cv : Nat) (gi ci : Nat → Nat) (gj : Nat → Nat → Nat) (lf : Nat → Nat) (br : Nat → Nat → Nat → Nat) (ac : Nat → Bool) : Prop where
  leaf : Blk w gl 3 (rangeC L fun x => encN (lf x))
  acc : Blk w ga 4 (rangeC n fun q => .bool (ac q))
  top : ∃ cs, Blk w gv 104 cs
  topc : ∀ x, x < L → w.cell? ⟨gv, x, none⟩ = some (.slice (some ⟨gi x, 0, none⟩) n (ci x))
  mid : ∀ x, x < L → (∃ cs, Blk w (gi x) 22 cs) ∧ ∀ i, i < n → w.cell? ⟨gi x, i, none⟩ = some (.slice (some ⟨gj x i, 0, none⟩) n n)
  row : ∀ x, x < L → ∀ i, i < n → Blk w (gj x i) 3 (rangeC n fun k => encN (br x i k))
  bl : base ≤ gl
  ba : base ≤ ga
  bv : base ≤ gv
  bi : ∀ x, x < L → base ≤ gi x
  bj : ∀ x, x < L → ∀ i, i < n → base ≤ gj x i
  nl : ∀ x, x < L → ∀ i, i < n → gl ≠ gj x i
  nj : ∀ x, x < L → ∀ i, i < n → ∀ x', x' < L → ∀ i', i' < n → gj x i = gj x' i' → x = x' ∧ i = i'

section
variable {w w' : World} {base L n gl ga gv cv : Nat} {gi ci : Nat → Nat} {gj : Nat → Nat → Nat} {lf : Nat → Nat} {br : Nat → Nat → Nat → Nat} {ac : Nat → Bool}
theorem TblW.read (h : TblW w base L n gl ga gv cv gi ci gj lf br ac) : TblF w L n (.slice (some ⟨gl, 0, none⟩) L L) (.slice (some ⟨gv, 0, none⟩) L cv) (.slice (some ⟨ga, 0, none⟩) n n) lf br ac :=
  ⟨⟨gl, L, rfl, fun x hx => by rw [h.leaf.cell, rangeC_get _ hx]; rfl⟩, ⟨ga, n, rfl, fun q hq => by rw [h.acc.cell, rangeC_get _ hq]⟩,
    gv, cv, gi, ci, gj, fun _ _ => n, rfl, fun x hx => ⟨h.topc x hx, fun i hi => ⟨(h.mid x hx).2 i hi, fun k hk => by rw [(h.row x hx i hi).cell, rangeC_get _ hk]; rfl⟩⟩⟩
theorem TblW.keep {X : Nat → Prop} (h : TblW w base L n gl ga gv cv gi ci gj lf br ac) (hk : Kept w w' X) (hX : ∀ k, X k → k < base) : TblW w' base L n gl ga gv cv gi ci gj lf br ac := by
  have hn : ∀ k, base ≤ k → ¬ X k := fun k hb hx => by have := hX k hx; omega
  refine ⟨h.leaf.kept hk (hn _ h.bl), h.acc.kept hk (hn _ h.ba), ?_, fun x hx => ?_, fun x hx => ⟨?_, fun i hi => ?_⟩, fun x hx i hi => (h.row x hx i hi).kept hk (hn _ (h.bj x hx i hi)), h.bl, h.ba, h.bv, h.bi, h.bj, h.nl, h.nj⟩
  · obtain ⟨cs, hc⟩ := h.top
    exact ⟨cs, hc.kept hk (hn _ h.bv)⟩
  · exact (hk.cell (cell_lt' (h.topc x hx)) (hn _ h.bv)).trans (h.topc x hx)
  · obtain ⟨cs, hc⟩ := (h.mid x hx).1
    exact ⟨cs, hc.kept hk (hn _ (h.bi x hx))⟩
  · exact (hk.cell (cell_lt' ((h.mid x hx).2 i hi)) (hn _ (h.bi x hx))).trans ((h.mid x hx).2 i hi)
theorem TblW.weak {base' : Nat} (h : TblW w base L n gl ga gv cv gi ci gj lf br ac) (hb : base' ≤ base) : TblW w base' L n gl ga gv cv gi ci gj lf br ac :=
  ⟨h.leaf, h.acc, h.top, h.topc, h.mid, h.row, Nat.le_trans hb h.bl, Nat.le_trans hb h.ba, Nat.le_trans hb h.bv, fun x hx => Nat.le_trans hb (h.bi x hx), fun x hx i hi => Nat.le_trans hb (h.bj x hx i hi), h.nl, h.nj⟩
theorem TblW.below (h : TblW w base L n gl ga gv cv gi ci gj lf br ac) (hb : Below w.heap.size w w') : TblW w' base L n gl ga gv cv gi ci gj lf br ac := h.keep (Kept.of_below hb (fun _ => False)) (fun _ h => h.elim)
/-- A store into a row of numbers turns neither rows of rows nor marks. -/
theorem TblW.store {g o : Nat} {v : Value} {cs : Array Value} (h : TblW w base L n gl ga gv cv gi ci gj lf br ac) (hg : Blk w g 3 cs) :
    Kept w (w.setCell ⟨g, o, none⟩ v) (fun k => k = g) ∧ (∃ cs, Blk (w.setCell ⟨g, o, none⟩ v) gv 104 cs) ∧
    (∀ x, x < L → (w.setCell ⟨g, o, none⟩ v).cell? ⟨gv, x, none⟩ = some (.slice (some ⟨gi x, 0, none⟩) n (ci x))) ∧
    (∀ x, x < L → (∃ cs, Blk (w.setCell ⟨g, o, none⟩ v) (gi x) 22 cs) ∧ ∀ i, i < n → (w.setCell ⟨g, o, none⟩ v).cell? ⟨gi x, i, none⟩ = some (.slice (some ⟨gj x i, 0, none⟩) n n)) := by
  have hk : Kept w (w.setCell ⟨g, o, none⟩ v) (fun k => k = g) := (Kept.refl w (fun k => k = g)).setCell (p := ⟨g, o, none⟩) (fun _ => rfl) v
  have h1 : gv ≠ g := by
    obtain ⟨cs, hc⟩ := h.top
    exact hc.ne_ hg (by decide)
  have h2 : ∀ x, x < L → gi x ≠ g := fun x hx => by
    obtain ⟨cs, hc⟩ := (h.mid x hx).1
    exact hc.ne_ hg (by decide)
  refine ⟨hk, ?_, fun x hx => (hk.cell (cell_lt' (h.topc x hx)) h1).trans (h.topc x hx), fun x hx => ⟨?_, fun i hi => (hk.cell (cell_lt' ((h.mid x hx).2 i hi)) (h2 x hx)).trans ((h.mid x hx).2 i hi)⟩⟩
  · obtain ⟨cs, hc⟩ := h.top
    exact ⟨cs, hc.kept hk h1⟩
  · obtain ⟨cs, hc⟩ := (h.mid x hx).1
    exact ⟨cs, hc.kept hk (h2 x hx)⟩
theorem TblW.setLeaf (h : TblW w base L n gl ga gv cv gi ci gj lf br ac) (x v : Nat) : TblW (w.setCell ⟨gl, x, none⟩ (.int .i64 (v : Int))) base L n gl ga gv cv gi ci gj (up1 lf x v) br ac := by
  obtain ⟨hk, h1, h2, h3⟩ := h.store (o := x) (v := .int .i64 (v : Int)) h.leaf
  refine ⟨?_, h.acc.kept hk (h.acc.ne_ h.leaf (by decide)), h1, h2, h3, fun x' hx i hi => (h.row x' hx i hi).kept hk (fun e => h.nl x' hx i hi e.symm), h.bl, h.ba, h.bv, h.bi, h.bj, h.nl, h.nj⟩
  have := h.leaf.set_ x (.int .i64 (v : Int))
  rw [rangeC_set] at this
  rw [rangeC_congr (g := fun x' => if x' = x then .int .i64 (v : Int) else encN (lf x')) (fun i _ => by unfold up1; split <;> rfl)]
  exact this
theorem TblW.setBr (h : TblW w base L n gl ga gv cv gi ci gj lf br ac) {x i : Nat} (hx : x < L) (hi : i < n) (k v : Nat) : TblW (w.setCell ⟨gj x i, k, none⟩ (.int .i64 (v : Int))) base L n gl ga gv cv gi ci gj lf (up3 br x i k v) ac := by
  obtain ⟨hk, h1, h2, h3⟩ := h.store (o := k) (v := .int .i64 (v : Int)) (h.row x hx i hi)
  refine ⟨h.leaf.kept hk (h.nl x hx i hi), h.acc.kept hk (h.acc.ne_ (h.row x hx i hi) (by decide)), h1, h2, h3, fun x' hx' i' hi' => ?_, h.bl, h.ba, h.bv, h.bi, h.bj, h.nl, h.nj⟩
  by_cases e : x' = x ∧ i' = i
  · obtain ⟨rfl, rfl⟩ := e
    have := (h.row x' hx i' hi).set_ k (.int .i64 (v : Int))
    rw [rangeC_set] at this
    rw [rangeC_congr (g := fun k' => if k' = k then .int .i64 (v : Int) else encN (br x' i' k')) (fun j _ => by simp only [up3, true_and]; split <;> rfl)]
    exact this
  · have := (h.row x' hx' i' hi').kept hk (fun e2 => e (h.nj x' hx' i' hi' x hx i hi e2))
    rw [rangeC_congr (g := fun k' => encN (br x' i' k')) (fun j _ => by unfold up3; rw [if_neg (fun h => e ⟨h.1, h.2.1⟩)])]
    exact this
theorem TblW.setAcc (h : TblW w base L n gl ga gv cv gi ci gj lf br ac) (q : Nat) (b : Bool) : TblW (w.setCell ⟨ga, q, none⟩ (.bool b)) base L n gl ga gv cv gi ci gj lf br (up1 ac q b) := by
  have hk : Kept w (w.setCell ⟨ga, q, none⟩ (.bool b)) (fun k => k = ga) := (Kept.refl w (fun k => k = ga)).setCell (p := ⟨ga, q, none⟩) (fun _ => rfl) _
  have h1 : gv ≠ ga := by
    obtain ⟨cs, hc⟩ := h.top
    exact hc.ne_ h.acc (by decide)
  have h2 : ∀ x, x < L → gi x ≠ ga := fun x hx => by
    obtain ⟨cs, hc⟩ := (h.mid x hx).1
    exact hc.ne_ h.acc (by decide)
  refine ⟨h.leaf.kept hk (h.leaf.ne_ h.acc (by decide)), ?_, ?_, fun x hx => (hk.cell (cell_lt' (h.topc x hx)) h1).trans (h.topc x hx), fun x hx => ⟨?_, fun i hi => (hk.cell (cell_lt' ((h.mid x hx).2 i hi)) (h2 x hx)).trans ((h.mid x hx).2 i hi)⟩, fun x hx i hi => (h.row x hx i hi).kept hk ((h.row x hx i hi).ne_ h.acc (by decide)), h.bl, h.ba, h.bv, h.bi, h.bj, h.nl, h.nj⟩
  · have := h.acc.set_ q (.bool b)
    rw [rangeC_set] at this
    rw [rangeC_congr (g := fun q' => if q' = q then .bool b else .bool (ac q')) (fun j _ => by unfold up1; split <;> rfl)]
    exact this
  · obtain ⟨cs, hc⟩ := h.top
    exact ⟨cs, hc.kept hk h1⟩
  · obtain ⟨cs, hc⟩ := (h.mid x hx).1
    exact ⟨cs, hc.kept hk (h2 x hx)⟩
end
end Go.Proofs.Ytnimlcbgeiajiaa

namespace Go.Proofs.Ytnimlcbgeiajiaa
open Go.RowKit

theorem info84 : (Try.prog.info? 84).map (fun i => (i.zero, i.size, i.bytes)) = some (some (.agg #[.int .i64 0, .slice none 0 0, .slice none 0 0, .slice none 0 0]), 4, 80) := by kernel_rfl
theorem made1 (z : Value) (n : Nat) : madeCells #[z] (n * 1) = rangeC n fun _ => z := by rw [madeCells_one, rangeC_rep]
def set4t (w : World) (g : Nat) (v0 v1 v2 v3 : Value) : World := (((w.setCell ⟨g, 0, none⟩ v0).setCell ⟨g, 1, none⟩ v1).setCell ⟨g, 2, none⟩ v2).setCell ⟨g, 3, none⟩ v3
theorem set4t_facts {w : World} {g : Nat} {e : TypeId} {a0 a1 a2 a3 : Value} (h : Blk w g e #[a0, a1, a2, a3]) (v0 v1 v2 v3 : Value) : ∃ wF, set4t w g v0 v1 v2 v3 = wF ∧ Blk wF g e #[v0, v1, v2, v3] ∧ Kept w wF (fun k => k = g) :=
  ⟨_, rfl, (((h.set_ 0 v0).set_ 1 v1).set_ 2 v2).set_ 3 v3,
    ((((Kept.refl w (fun k => k = g)).setCell (p := ⟨g, 0, none⟩) (fun _ => rfl) v0).setCell (p := ⟨g, 1, none⟩) (fun _ => rfl) v1).setCell (p := ⟨g, 2, none⟩) (fun _ => rfl) v2).setCell (p := ⟨g, 3, none⟩) (fun _ => rfl) v3⟩
theorem AllB.set4t {w0 w : World} {l : List (Nat × TypeId × Array Value)} {g : Nat} {e : TypeId} {a b c d : Value} (h : AllB w0 w ((g, e, #[a, b, c, d]) :: l)) (v0 v1 v2 v3 : Value) : AllB w0 (set4t w g v0 v1 v2 v3) ((g, e, #[v0, v1, v2, v3]) :: l) := by
  have hg := (h.blk _ List.mem_cons_self)
  obtain ⟨wF, hwF, hb, hk⟩ := set4t_facts hg.1 v0 v1 v2 v3
  rw [hwF]
  refine ⟨h.below.trans (hk.below h.below.size fun b hb e => by have := hg.2; dsimp only at this; omega), fun x hx => ?_, h.nodup⟩
  rcases List.mem_cons.1 hx with rfl | hx
  · exact ⟨hb, hg.2⟩
  · have h1 := h.blk x (List.mem_cons_of_mem _ hx)
    refine ⟨Blk.kept h1.1 hk fun e => ?_, h1.2⟩
    have h2 := h.nodup
    rw [List.map_cons, List.nodup_cons] at h2
    exact h2.1 (List.mem_map.2 ⟨x, hx, e⟩)

set_option maxHeartbeats 8000000 in
set_option maxRecDepth 100000 in
theorem blank_rows {w : World} {L n : Nat} (hL : L ≤ 8) (hn : n ≤ 20000)
    {u2 u3 u4 u5 u6 u7 u8 u9 u10 u11 u12 u13 u14 u15 u16 u17 u18 u19 u20 u21 u22 u23 u24 u25 u26 u27 u28 u29 u30 u31 u32 u33 u34 u35 u36 : Value}
    {Q : Exit → Act → World → Prop} (hN : Reg.NoQ Q)
    (hQ : ∀ (x9 x10 x11 x12 x13 x14 : Value) (w' : World) (g5 gl ga : Nat), AllB w w' [(g5, 84, #[.int .i64 (L : Int), .slice (some ⟨gl, 0, none⟩) L L, .slice none 0 0, .slice (some ⟨ga, 0, none⟩) n n]), (gl, 3, rangeC L fun _ => .int .i64 0), (ga, 4, rangeC n fun _ => .bool false)] →
      Q .normal ⟨List.toArray ((.int .i64 (L : Int)) :: (.int .i64 (n : Int)) :: u2 :: u3 :: u4 :: (.pointer (some ⟨g5, 0, none⟩)) :: u6 :: u7 :: u8 :: x9 :: x10 :: x11 :: x12 :: x13 :: x14 :: u15 :: u16 :: u17 :: u18 :: u19 :: u20 :: u21 :: u22 :: u23 :: u24 :: u25 :: u26 :: u27 :: u28 :: 
      u29 :: u30 :: u31 :: u32 :: u33 :: u34 :: u35 :: u36 :: []), []⟩ w') :
    (regionAt Try.f84 1).wp Try.prog Q ⟨List.toArray ((.int .i64 (L : Int)) :: (.int .i64 (n : Int)) :: u2 :: u3 :: u4 :: u5 :: u6 :: u7 :: u8 :: u9 :: u10 :: u11 :: u12 :: u13 :: u14 :: u15 :: u16 :: u17 :: u18 :: u19 :: u20 :: u21 :: u22 :: u23 :: u24 :: u25 :: u26 :: u27 :: u28 :: u29 :: u30 :: u31 :: u32 :: 
      u33 :: u34 :: u35 :: u36 :: []), []⟩ w := by
  conv => arg 2; whnf
  refine Reg.region_spl [0, 0, 2, 0, 8, 31, 0, 127] (.node 2 4 (.node 2 6 (.node 4 6 (.node 5 6 (.leaf [0, 1, 3, 2, 4, 5, 6, 7]) (.leaf [0, 1, 3, 2, 4, 6, 5, 7])) (.leaf [0, 1, 3, 2, 6, 4, 5, 7])) (.leaf [0, 1, 3, 6, 2, 4, 5, 7])) (.node 2 6 (.node 5 6 (.leaf [0, 1, 3, 4, 2, 5, 6, 7]) (.leaf [0, 1, 3, 4, 2, 6, 5, 7])) (.node 4 6 (.leaf [0, 1, 3, 4, 6, 2, 5, 7]) (.leaf [0, 1, 3, 6, 4, 2, 5, 7])))) (by kernel_rfl) hN ?_
  dsimp only [Reg.Spl.goal]
  have hA := (AllB.nil w).drew
  repeat' (with_reducible refine And.intro ?_ ?_)
  all_goals
    refine Reg.rest_walkE [0, 1, 3] _ rfl rfl (by kernel_rfl) ?_
    intro Qf hQf
    go_wp2_with fail
    rw [List.filterMap_nil]
    go_wp2_with fail
    iterate 5
      first
      | (refine Reg.rest_act' 2 _ [] rfl (by kernel_rfl) ?_
         intro Qf hQf
         simp only [List.getElem_toArray, List.getElem_cons_succ, List.getElem_cons_zero]
         refine wpList_make Try.underlying22 info3 (by omega) (by omega) L (by omega) rfl _ _ rfl rfl rfl ?_
         intro gl w1 hb hB hg
         refine hQf _ _ ⟨Reg.same_below hB _ rfl, ?_⟩
         replace hA := hA.add hB hb hg
         clear hQf hb hB hg)
      | (refine Reg.rest_act' 4 _ [] rfl (by kernel_rfl) ?_
         intro Qf hQf
         simp only [List.getElem_toArray, List.getElem_cons_succ, List.getElem_cons_zero]
         refine wpList_make Try.underlying79 info4 (by omega) (by omega) n (by omega) rfl _ _ rfl rfl rfl ?_
         intro ga w1 hb hB hg
         refine hQf _ _ ⟨Reg.same_below hB _ rfl, ?_⟩
         replace hA := hA.add hB hb hg
         clear hQf hb hB hg)
      | (refine Reg.rest_walkE [6] _ rfl rfl (by kernel_rfl) ?_
         intro Qf hQf
         refine wpList_alloc info84 rfl rfl ?_
         intro g5 w1 hb hB hg
         refine hQf _ _ ?_
         replace hA := hA.add hB hb hg
         clear hQf hb hB hg)
      | (refine Reg.rest_walkE [5] _ rfl rfl (by kernel_rfl) ?_
         intro Qf hQf
         go_wp2_with fail
         rw [List.filterMap_nil]
         go_wp2_with fail)
      | (refine Reg.rest_walkE [7] _ rfl rfl (by kernel_rfl) ?_
         intro Qf hQf
         have hb3 := (hA.blk (g5, 84, #[.int .i64 0, .slice none 0 0, .slice none 0 0, .slice none 0 0]) (by simp [Value.cells])).1
         have hc3 := hb3.cell
         have hf3 := hb3.frozen
         have hl3 := hb3.lt
         clear hb3
         go_wp2_with fail)
    refine Reg.rest_end ?_
    obtain ⟨hbel, hblk, hnd⟩ := hA
    simp only [List.map_cons, List.map_nil, List.nodup_cons, List.mem_cons, List.not_mem_nil, not_or, or_false, List.nodup_nil, not_false_eq_true, and_true] at hnd
    refine hQ _ _ _ _ _ _ _ g5 gl ga ?_
    have hA2 : AllB w w1 [(g5, 84, #[.int .i64 0, .slice none 0 0, .slice none 0 0, .slice none 0 0]), (gl, 3, rangeC L fun _ => .int .i64 0), (ga, 4, rangeC n fun _ => .bool false)] := by
      refine ⟨hbel, ?_, ?_⟩
      · intro x hx
        rw [← made1, ← made1] at hx
        refine hblk x ?_
        simp only [List.mem_cons, List.not_mem_nil, or_false] at hx ⊢
        rcases hx with rfl | rfl | rfl
        · first | exact .inl rfl | exact .inr (.inl rfl) | exact .inr (.inr rfl)
        · first | exact .inl rfl | exact .inr (.inl rfl) | exact .inr (.inr rfl)
        · first | exact .inl rfl | exact .inr (.inl rfl) | exact .inr (.inr rfl)
      · simp only [List.map_cons, List.map_nil, List.nodup_cons, List.mem_cons, List.not_mem_nil, not_or, or_false, List.nodup_nil, not_false_eq_true, and_true]
        omega
    exact hA2.set4t _ _ _ _

/-- One line of the table grows. -/
structure InnP (w1 wr : World) (n i : Nat) (vr : Value) (f : Nat → Nat) : Prop where
  below : Below w1.heap.size w1 wr
  own : wr.ownsRow w1.heap.size 22 1 vr i ((List.range i).map fun k => .slice (some ⟨f k, 0, none⟩) n n)
  row : ∀ k, k < i → Blk wr (f k) 3 (rangeC n fun _ => encN 0) ∧ w1.heap.size ≤ f k
  inj : ∀ k, k < i → ∀ k', k' < i → f k = f k' → k = k'
theorem InnP.nil (w1 : World) (n : Nat) (f : Nat → Nat) : InnP w1 w1 n 0 (.slice none 0 0) f := ⟨Below.refl _ _, own_nil, fun k hk => absurd hk (by omega), fun k hk => absurd hk (by omega)⟩
theorem map_up {D : Type} (f : Nat → Nat) (i g : Nat) (F : Nat → D) : ((List.range (i + 1)).map fun k => F (up1 f i g k)) = ((List.range i).map fun k => F (f k)) ++ [F g] := by
  rw [List.range_succ, List.map_append]
  congr 1
  · refine List.map_congr_left fun k hk => ?_
    have := List.mem_range.1 hk
    unfold up1
    rw [if_neg (by omega)]
  · simp [up1]
theorem InnP.step {w1 wr w2 w3 : World} {n i g : Nat} {vr v' : Value} {f : Nat → Nat} (h : InnP w1 wr n i vr f) (hg : Blk w2 g 3 (rangeC n fun _ => encN 0)) (hb : Below wr.heap.size wr w2) (hgs : wr.heap.size ≤ g)
    (ho : w3.ownsRow w1.heap.size 22 1 v' (i + 1) (((List.range i).map fun k => .slice (some ⟨f k, 0, none⟩) n n) ++ [.slice (some ⟨g, 0, none⟩) n n])) (hk : Kept w2 w3 (fun k => vr.ownBlock = some k)) : InnP w1 w3 n (i + 1) v' (up1 f i g) := by
  have hs := h.below.size
  have hs2 := hb.size
  have hne : ∀ g' cs, Blk w2 g' 3 cs → ¬ vr.ownBlock = some g' := fun g' cs hB => own_blk_ne ((Kept.of_below hb (fun _ => False)).ownsRow h.own (fun _ _ => id)) hB (by decide)
  refine ⟨(h.below.trans (hb.mono hs)).trans (hk.below (by omega) fun b hb e => by have := own_base h.own e; omega), ?_, fun k hk' => ?_, fun k h1 k' h2 e => ?_⟩
  · rw [map_up f i g fun k => Value.slice (some ⟨k, 0, none⟩) n n]
    exact ho
  · unfold up1
    split
    · exact ⟨hg.kept hk (hne _ _ hg), by omega⟩
    · obtain ⟨h3, h4⟩ := h.row k (by omega)
      have h5 := h3.below hb
      exact ⟨h5.kept hk (hne _ _ h5), h4⟩
  · have hlt : ∀ k, k < i → f k < wr.heap.size := fun k hk => (h.row k hk).1.lt
    unfold up1 at e
    split at e <;> split at e
    · omega
    · have := hlt k' (by omega); omega
    · have := hlt k (by omega); omega
    · exact h.inj k (by omega) k' (by omega) e

/-- The table grows. -/
structure BlankP (w wr : World) (L n x g5 gl ga : Nat) (vb : Value) (gi ci : Nat → Nat) (gj : Nat → Nat → Nat) : Prop where
  below : Below w.heap.size w wr
  b5 : Blk wr g5 84 #[.int .i64 (L : Int), .slice (some ⟨gl, 0, none⟩) L L, vb, .slice (some ⟨ga, 0, none⟩) n n]
  bl : Blk wr gl 3 (rangeC L fun _ => encN 0)
  ba : Blk wr ga 4 (rangeC n fun _ => .bool false)
  top : wr.ownsRow w.heap.size 104 1 vb x ((List.range x).map fun y => .slice (some ⟨gi y, 0, none⟩) n (ci y))
  mid : ∀ y, y < x → wr.ownsRow w.heap.size 22 1 (.slice (some ⟨gi y, 0, none⟩) n (ci y)) n ((List.range n).map fun i => .slice (some ⟨gj y i, 0, none⟩) n n)
  row : ∀ y, y < x → ∀ i, i < n → Blk wr (gj y i) 3 (rangeC n fun _ => encN 0) ∧ w.heap.size ≤ gj y i ∧ gl ≠ gj y i
  inj : ∀ y, y < x → ∀ i, i < n → ∀ y', y' < x → ∀ i', i' < n → gj y i = gj y' i' → y = y' ∧ i = i'
  h5 : w.heap.size ≤ g5
  hl : w.heap.size ≤ gl
  ha : w.heap.size ≤ ga
theorem map_up2 {D : Type} (f c : Nat → Nat) (i g d : Nat) (F : Nat → Nat → D) : ((List.range (i + 1)).map fun k => F (up1 f i g k) (up1 c i d k)) = ((List.range i).map fun k => F (f k) (c k)) ++ [F g d] := by
  rw [List.range_succ, List.map_append]
  congr 1
  · refine List.map_congr_left fun k hk => ?_
    have := List.mem_range.1 hk
    unfold up1
    rw [if_neg (by omega), if_neg (by omega)]
  · simp [up1]
theorem BlankP.step {w w1 wr w3 : World} {L n x g5 gl ga g c : Nat} {vb v' : Value} {gi ci f : Nat → Nat} {gj : Nat → Nat → Nat} (h : BlankP w w1 L n x g5 gl ga vb gi ci gj) (hI : InnP w1 wr n n (.slice (some ⟨g, 0, none⟩) n c) f)
    (ho : w3.ownsRow w.heap.size 104 1 v' (x + 1) (((List.range x).map fun y => .slice (some ⟨gi y, 0, none⟩) n (ci y)) ++ [.slice (some ⟨g, 0, none⟩) n c])) (hk : Kept wr w3 (fun k => vb.ownBlock = some k)) :
    BlankP w (w3.setCell ⟨g5, 2, none⟩ v') L n (x + 1) g5 gl ga v' (up1 gi x g) (up1 ci x c) (fun y i => if y = x then f i else gj y i) := by
  have hs := h.below.size
  have hs2 := hI.below.size
  have hK0 := Kept.of_below hI.below (fun _ => False)
  have hvb := hK0.ownsRow h.top (fun _ _ => id)
  have hne : ∀ (e : TypeId), 104 ≠ e → ∀ g' cs, vb.ownBlock = some g' → ¬ Blk wr g' e cs := fun e he g' cs hx hB => own_blk_ne hvb hB he hx
  have hb5 : Blk w3 g5 84 _ := (h.b5.below hI.below).kept hk fun e => hne 84 (by decide) g5 _ e (h.b5.below hI.below)
  have hks := (Kept.refl w3 (fun k => k = g5)).setCell (p := ⟨g5, 2, none⟩) (fun _ => rfl) v'
  have h5e : ∀ (e : TypeId), e ≠ 84 → ∀ g cs, g = g5 → ¬ Blk w3 g e cs := fun e he g cs eg hb => by subst eg; exact hb5.ne_ hb (fun h => he h.symm) rfl
  have hblk : ∀ {g' : Nat} {e : TypeId} {cs : Array Value}, 104 ≠ e → e ≠ 84 → Blk wr g' e cs → Blk (w3.setCell ⟨g5, 2, none⟩ v') g' e cs := fun {g'} {e} {cs} h1 h2 hB => by
    have h3 := hB.kept hk fun hx => hne e h1 g' cs hx hB
    exact h3.kept hks fun eg => h5e e h2 g' cs eg h3
  have hown : ∀ {v : Value} {k b : Nat} {e : TypeId} {xs : List Value}, 104 ≠ e → e ≠ 84 → wr.ownsRow b e 1 v k xs → (w3.setCell ⟨g5, 2, none⟩ v').ownsRow b e 1 v k xs := fun h1 h2 hB => own_ty hks (own_ty hk hB (hne _ h1)) (h5e _ h2)
  refine ⟨?_, ?_, hblk (by decide) (by decide) (h.bl.below hI.below), hblk (by decide) (by decide) (h.ba.below hI.below), ?_, fun y hy => ?_, fun y hy i hi => ?_, fun y hy i hi y' hy' i' hi' e => ?_, h.h5, h.hl, h.ha⟩
  · refine ((h.below.trans (hI.below.mono hs)).trans (hk.below (by omega) fun b hb e => by have := own_base h.top e; omega)).trans (hks.below (by have := hk.size; omega) fun b hb e => by have := h.h5; omega)
  · simpa using hb5.set_ 2 v'
  · rw [map_up2 gi ci x g c fun a b => Value.slice (some ⟨a, 0, none⟩) n b]
    exact own_ty hks ho (h5e 104 (by decide))
  · by_cases e : y = x
    · subst e
      simp only [up1, if_true]
      exact hown (by decide) (by decide) (own_weak hI.own hs)
    · simp only [up1, if_neg e]
      exact hown (by decide) (by decide) (hK0.ownsRow (h.mid y (by omega)) (fun _ _ => id))
  · by_cases e : y = x
    · rw [if_pos e]
      obtain ⟨h1, h2⟩ := hI.row i hi
      have := h.bl.lt
      exact ⟨hblk (by decide) (by decide) h1, by omega, by omega⟩
    · rw [if_neg e]
      obtain ⟨h1, h2, h3⟩ := h.row y (by omega) i hi
      exact ⟨hblk (by decide) (by decide) (h1.below hI.below), h2, h3⟩
  · try dsimp only at e
    have old : ∀ y i, y < x → i < n → gj y i < w1.heap.size := fun y i hy hi => (h.row y hy i hi).1.lt
    split at e <;> split at e
    · rename_i e1 e2
      exact ⟨by omega, hI.inj i hi i' hi' e⟩
    · have := old y' i' (by omega) hi'
      have := (hI.row i hi).2
      omega
    · have := old y i (by omega) hi
      have := (hI.row i' hi').2
      omega
    · exact h.inj y (by omega) i hi y' (by omega) i' hi' e
theorem own_at {w : World} {base n g cap : Nat} {e : TypeId} {F : Nat → Value} (h : w.ownsRow base e 1 (.slice (some ⟨g, 0, none⟩) n cap) n ((List.range n).map F)) {k : Nat} (hk : k < n) : w.cell? ⟨g, k, none⟩ = some (F k) :=
  own_cell h (by simp [hk])
theorem own_blk' {w : World} {base n g cap size : Nat} {e : TypeId} {xs : List Value} (h : w.ownsRow base e size (.slice (some ⟨g, 0, none⟩) n cap) n xs) : (∃ cs, Blk w g e cs) ∧ base ≤ g :=
  ⟨own_blk h rfl, own_base h rfl⟩
/-- The table is there. -/
theorem BlankP.done {w wr : World} {L n g5 gl ga gv cv : Nat} {gi ci : Nat → Nat} {gj : Nat → Nat → Nat} (h : BlankP w wr L n L g5 gl ga (.slice (some ⟨gv, 0, none⟩) L cv) gi ci gj) :
    TblW wr w.heap.size L n gl ga gv cv gi ci gj (fun _ => 0) (fun _ _ _ => 0) (fun _ => false) :=
  ⟨h.bl, h.ba, (own_blk' h.top).1, fun _ hx => own_at h.top hx, fun x hx => ⟨(own_blk' (h.mid x hx)).1, fun _ hi => own_at (h.mid x hx) hi⟩, fun x hx i hi => (h.row x hx i hi).1, h.hl, h.ha, (own_blk' h.top).2, fun x hx => (own_blk' (h.mid x hx)).2,
    fun x hx i hi => (h.row x hx i hi).2.1, fun x hx i hi => (h.row x hx i hi).2.2, h.inj⟩
end Go.Proofs.Ytnimlcbgeiajiaa

namespace Go.Proofs.Ytnimlcbgeiajiaa
open Go.RowKit

set_option maxHeartbeats 8000000 in
set_option maxRecDepth 100000 in
theorem blank_any {w : World} {L n : Nat} (hL : L ≤ 8) (hL1 : 1 ≤ L) (hn : n ≤ 20000) (hn1 : 1 ≤ n) :
    Calls Try.prog 84 #[.int .i64 (L : Int), .int .i64 (n : Int)] w (Ret fun v w' => Below w.heap.size w w' ∧ ∃ gl ga gv cv gi ci gj,
      v = .agg #[.int .i64 (L : Int), .slice (some ⟨gl, 0, none⟩) L L, .slice (some ⟨gv, 0, none⟩) L cv, .slice (some ⟨ga, 0, none⟩) n n] ∧ TblW w' w.heap.size L n gl ga gv cv gi ci gj (fun _ => 0) (fun _ _ _ => 0) (fun _ => false)) := by
  obtain ⟨w1, hw1, hb1, hB1, hk1⟩ := box_blk w #[.int .i64 0, .slice none 0 0, .slice none 0 0, .slice none 0 0] 84
  have hsz1 := hb1.size
  have hlt1 := hB1.lt
  go_enter Try.func84, Try.ntmps84
  go_wp2_with fail
  refine blank_rows hL hn (by repeat (first | exact Reg.NoQ.body (fun _ _ h => h) (fun _ h => h) | refine Reg.NoQ.then ?_ | refine Reg.NoQ.inBlock ?_)) ?_
  iterate 6 (intro _)
  intro w2 g5 gl ga hA
  have hP0 : Hid (BlankP w1 w2 L n 0 g5 gl ga (.slice none 0 0) (fun _ => 0) (fun _ => 0) (fun _ _ => 0)) := by
    obtain ⟨hbel, hblk, hnd⟩ := hA
    have b5 := hblk _ (List.mem_cons_self)
    have bl := hblk _ (List.mem_cons_of_mem _ List.mem_cons_self)
    have ba := hblk _ (List.mem_cons_of_mem _ (List.mem_cons_of_mem _ List.mem_cons_self))
    exact ⟨hbel, b5.1, bl.1, ba.1, own_nil, fun y hy => absurd hy (by omega), fun y hy => absurd hy (by omega), fun y hy => absurd hy (by omega), b5.2, bl.2, ba.2⟩
  clear hA
  go_wp2_with fail
  go_loopw [6] (fun xx wr => ∃ (x : Nat) (vb : Value) (gi ci : Nat → Nat) (gj : Nat → Nat → Nat), xx = .int .i64 (x : Int) ∧ x ≤ L ∧ BlankP w1 wr L n x g5 gl ga vb gi ci gj) (fun xx _ => L - (intOf xx).toNat)
  case atStart => exact ⟨0, _, _, _, _, rfl, Nat.zero_le _, hP0.out⟩
  case round =>
    obtain ⟨x, vb, gi, ci, gj, rfl, hx, hP⟩ := hrel
    obtain ⟨Av, cv, rfl⟩ := slice_of_own hP.top
    have hPH := hide hP
    clear hP
    by_cases hlt : x < L
    · obtain ⟨wa, hwa⟩ : ∃ wa : World, wa = wr := ⟨_, rfl⟩
      subst hwa
      go_wp2_with fail
      go_loopw [7, 8] (fun rr ii wr2 => ∃ (i : Nat) (f : Nat → Nat), ii = .int .i64 (i : Int) ∧ i ≤ n ∧ InnP wa wr2 n i rr f) (fun _ ii _ => n - (intOf ii).toNat)
      case atStart => exact ⟨0, fun _ => 0, rfl, Nat.zero_le _, InnP.nil _ _ _⟩
      case round =>
        obtain ⟨i, f, rfl, hi, hI⟩ := hrel
        by_cases hin : i < n
        · obtain ⟨A, c, rfl⟩ := slice_of_own hI.own
          obtain ⟨gr, w4, hmk, hR, hb4, hgr⟩ := mk_row wr n (by omega)
          rw [rangeC_rep] at hR
          have hown4 := (Kept.of_below hb4 (fun _ => False)).ownsRow hI.own (fun _ _ => id)
          have hb44 := hide hb4
          have hII := hide hI
          have hRR := hide hR
          have hsa := hI.below.size
          have hsb := hb4.size
          clear hb4 hI hR
          go_wp2_with (at_builtin; refine wpList_app_new row104 rfl _ _ rfl wa.heap.size (.slice A i c) i _ rfl hown4 [.slice (some ⟨gr, 0, none⟩) n n] 1 rfl rfl (by simp [Value.oneCell']) (by omega) (by omega) ?_; intro g cap w5 hown5 hk5 hmv5 hg5; have hst5 := hide (hII.out.step hRR.out hb44.out hgr hown5 hk5); clear hown5 hk5 hmv5 hg5)
          exact ⟨⟨i + 1, up1 f i gr, by go_num, by omega, hst5.out⟩, by simp [intOf]; omega⟩
        · obtain rfl : i = n := by omega
          obtain ⟨g, c, rfl, -⟩ := own_get (k := 0) hI.own (by rw [List.getElem?_map, List.getElem?_range (by omega)]; rfl)
          have hb5r := hPH.out.b5.below hI.below
          have hc5 := hb5r.cell
          have htop := (Kept.of_below hI.below (fun _ => False)).ownsRow hPH.out.top (fun _ _ => id)
          have hII := hide hI
          have hsa := hI.below.size
          have hsb := hPH.out.below.size
          clear hI
          go_wp2_with (at_builtin; refine wpList_app_new row80 rfl _ _ rfl w1.heap.size (.slice Av x cv) x _ rfl htop [.slice (some ⟨g, 0, none⟩) i c] 1 rfl rfl (by simp [Value.oneCell']) (by omega) (by omega) ?_; intro g6 cap6 w6 hown6 hk6 hmv6 hg6
                       have hb56 := hb5r.kept hk6 (fun e => own_blk_ne htop hb5r (by decide) e)
                       have hc56 := hb56.cell
                       have hf56 := hb56.frozen 2
                       have hl56 := hb56.lt
                       have hst6 := hide (hPH.out.step hII.out hown6 hk6)
                       clear hown6 hk6 hmv6 hg6 hb56 hc5)
          exact ⟨⟨x + 1, _, _, _, _, by go_num, by omega, hst6.out⟩, by simp [intOf]; omega⟩
    · obtain rfl : x = L := by omega
      obtain ⟨gv, cv', hvv, -⟩ := own_get (k := 0) hPH.out.top (by rw [List.getElem?_map, List.getElem?_range (by omega)]; rfl)
      injection hvv with hA _ hcc
      subst hA hcc
      have hT := hide hPH.out.done
      have hc5 := hPH.out.b5.cell
      have hB1r := hB1.below hPH.out.below
      have hc1 := hB1r.cell
      have hf1 := hB1r.frozen
      have hl1 := hB1r.lt
      go_wp2_with fail
      obtain ⟨wF, hwF, hgF, hkF⟩ := set4t_facts hB1r (.int .i64 (x : Int)) (.slice (some ⟨gl, 0, none⟩) x x) (.slice (some ⟨gv, 0, none⟩) x cv) (.slice (some ⟨ga, 0, none⟩) n n)
      change bodyPost _ _ _ _ _ (set4t wr w.heap.size (.int .i64 (x : Int)) (.slice (some ⟨gl, 0, none⟩) x x) (.slice (some ⟨gv, 0, none⟩) x cv) (.slice (some ⟨ga, 0, none⟩) n n))
      rw [hwF]
      have hcF := hgF.cell
      have hbr := hPH.out.below
      exact bodyPost_ret (v := .agg #[.int .i64 (x : Int), .slice (some ⟨gl, 0, none⟩) x x, .slice (some ⟨gv, 0, none⟩) x cv, .slice (some ⟨ga, 0, none⟩) n n]) (by simp [results, Try.results84, go_sem, hcF]) rfl
        ⟨(hb1.trans (hbr.mono hsz1)).trans (hkF.below (by have := hbr.size; omega) fun b hb e => by omega), gl, ga, gv, cv, rfl, gi, ci, gj, (hT.out.keep hkF fun k e => by omega).weak hsz1⟩
end Go.Proofs.Ytnimlcbgeiajiaa

namespace Go.Proofs.Ytnimlcbgeiajiaa
open Go.RowKit

set_option maxHeartbeats 4000000 in
theorem has_any {w : World} {g c : Nat} {xs : List Nat} {x : Nat} (h : ∀ j y, xs[j]? = some y → w.cell? ⟨g, j, none⟩ = some (encN y)) (hn : xs.length ≤ 100000000) :
    Calls Try.prog 115 #[.slice (some ⟨g, 0, none⟩) xs.length c, .int .i64 (x : Int)] w fun e w' => e = .returned (.bool (decide (x ∈ xs))) ∧ w = w' := by
  have hH := hide h
  clear h
  go_enter Try.func115, Try.ntmps115
  go_wp2_with fail
  go_loop [5] (fun ii => ∃ (k : Nat), ii = .int .i64 (k : Int) ∧ k ≤ xs.length ∧ Hid (∀ j, j < k → xs[j]? ≠ some x)) (fun ii => xs.length - (intOf ii).toNat)
  case atStart => exact ⟨0, rfl, Nat.zero_le _, fun j hj => absurd hj (by omega)⟩
  case round =>
    obtain ⟨k, rfl, hk, hE⟩ := hrel
    by_cases hlt : k < xs.length
    · obtain ⟨y, hy⟩ := get_lt hlt
      have hc := hH.out k y hy
      simp only [encN] at hc
      have hY := hide hy
      clear hy
      by_cases e : y = x
      · subst e
        go_wp2_with fail
        go_ret
        exact ⟨congrArg (fun b => Ending.returned (Value.bool b)) (decide_eq_true (List.mem_of_getElem? hY.out)).symm, rfl⟩
      · have e' : ¬ (y : Int) = (x : Int) := by omega
        go_wp2_with fail
        refine ⟨⟨k + 1, by go_num, by omega, fun j hj => ?_⟩, by simp [intOf]; omega⟩
        by_cases e2 : j = k
        · subst e2; rw [hY.out]; exact fun h => e (Option.some.inj h)
        · exact hE.out j (by omega)
    · go_wp2_with fail
      go_ret
      refine ⟨congrArg (fun b => Ending.returned (Value.bool b)) (decide_eq_false (p := x ∈ xs) fun h => ?_).symm, rfl⟩
      obtain ⟨j, hj⟩ := List.mem_iff_getElem?.1 h
      exact hE.out j (by have := lt_of_get hj; omega) hj

/-- The ways to join. -/
def wayJ (way : Nat) (a b : Bool) : Bool := if way = 1 then a && b else if way = 2 then a || b else if way = 3 then a && !b else a != b

set_option maxHeartbeats 4000000 in
theorem holds_any {w : World} {way : Nat} {a b : Bool} (hw : way = 1 ∨ way = 2 ∨ way = 3) :
    Calls Try.prog 95 #[.int .i64 (way : Int), .bool a, .bool b] w fun e w' => e = .returned (.bool (wayJ way a b)) ∧ w = w' := by
  rcases hw with rfl | rfl | rfl
  all_goals
    cases a <;> cases b
    all_goals
      go_enter Try.func95, Try.ntmps95
      go_wp2_with fail
      go_ret
      exact ⟨rfl, rfl⟩

set_option maxHeartbeats 4000000 in
theorem refempty_any {w : World} {base c L : Nat} {A : Option Addr} {vl vb : Value} {ac : List Bool} (h : w.ownsRow base 4 1 (.slice A ac.length c) ac.length (ac.map .bool)) (hn : ac.length ≤ 100000) :
    Calls Try.prog 70 #[.agg #[.int .i64 (L : Int), vl, vb, .slice A ac.length c]] w (Ret fun v w' => v = .bool (!decide (true ∈ ac)) ∧ Below w.heap.size w w') := by
  obtain ⟨w1, hw1, hb1, hB1, hk1⟩ := box_blk w #[.int .i64 (L : Int), vl, vb, .slice A ac.length c] 84
  have hc1 := hB1.cell
  have hH : Hid (w1.ownsRow base 4 1 (.slice A ac.length c) ac.length (ac.map .bool)) := own_ty hk1 h (fun _ _ h => h.elim)
  have hb01 := hide hb1
  clear h hb1
  go_enter Try.func70, Try.ntmps70
  go_wp2_with fail
  go_loop [3] (fun ii => ∃ (k : Nat), ii = .int .i64 (k : Int) ∧ k ≤ ac.length ∧ Hid (∀ j, j < k → ac[j]? = some false)) (fun ii => ac.length - (intOf ii).toNat)
  case atStart => exact ⟨0, rfl, Nat.zero_le _, fun j hj => absurd hj (by omega)⟩
  case round =>
    obtain ⟨k, rfl, hk, hE⟩ := hrel
    by_cases hlt : k < ac.length
    · obtain ⟨b, hb⟩ := get_lt hlt
      obtain ⟨g, cap, hg, hc⟩ := own_get hH.out (map_get (f := Value.bool) hb)
      injection hg with hg _ hcc
      subst hg hcc
      have hB := hide hb
      clear hb
      cases b
      · go_wp2_with fail
        refine ⟨⟨k + 1, by go_num, by omega, fun j hj => ?_⟩, by simp [intOf]; omega⟩
        by_cases e : j = k
        · subst e; exact hB.out
        · exact hE.out j (by omega)
      · go_wp2_with fail
        go_ret
        refine ⟨?_, hb01.out⟩
        rw [decide_eq_true (List.mem_of_getElem? hB.out)]
        rfl
    · go_wp2_with fail
      go_ret
      refine ⟨?_, hb01.out⟩
      rw [decide_eq_false fun h => ?_]
      · rfl
      · obtain ⟨j, hj⟩ := List.mem_iff_getElem?.1 h
        have h2 := hE.out j (by have := lt_of_get hj; omega)
        rw [hj] at h2
        cases h2
end Go.Proofs.Ytnimlcbgeiajiaa

namespace Go.Proofs.Ytnimlcbgeiajiaa
open Go.RowKit

/-- How many different numbers the first k are. -/
def kindsL (xs : List Nat) : Nat → Nat
  | 0 => 0
  | k + 1 => kindsL xs k + if xs.getD k 0 ∈ xs.take k then 0 else 1
theorem kindsL_le (xs : List Nat) (k : Nat) : kindsL xs k ≤ k := by
  induction k with
  | zero => exact Nat.le_refl _
  | succ k ih => unfold kindsL; split <;> omega
theorem has_at {w : World} {g c n : Nat} {xs : List Nat} {x : Nat} {b : Bool} (hb : decide (x ∈ xs) = b) (hx : xs.length = n) (h : ∀ j y, xs[j]? = some y → w.cell? ⟨g, j, none⟩ = some (encN y)) (hn : n ≤ 100000000) :
    Calls Try.prog 115 #[.slice (some ⟨g, 0, none⟩) n c, .int .i64 (x : Int)] w fun e w' => e = .returned (.bool b) ∧ w' = w := by
  subst hx hb
  exact (has_any h hn).mono fun e w' h => ⟨h.1, h.2.symm⟩

set_option maxHeartbeats 4000000 in
theorem kinds_any {w : World} {g c : Nat} {xs : List Nat} (h : ∀ j y, xs[j]? = some y → w.cell? ⟨g, j, none⟩ = some (encN y)) (hg : g < w.heap.size) (hc : xs.length ≤ c) (hn : xs.length ≤ 100000000) :
    Calls Try.prog 109 #[.slice (some ⟨g, 0, none⟩) xs.length c] w (Ret fun v w' => v = .int .i64 (kindsL xs xs.length : Int) ∧ Below w.heap.size w w') := by
  have hH := hide h
  clear h
  go_enter Try.func109, Try.ntmps109
  go_wp2_with fail
  go_loopw [3, 4] (fun nn ii wr => ∃ (k : Nat), ii = .int .i64 (k : Int) ∧ k ≤ xs.length ∧ nn = .int .i64 (kindsL xs k : Int) ∧ Below w.heap.size w wr) (fun _ ii _ => xs.length - (intOf ii).toNat)
  case atStart => exact ⟨0, rfl, Nat.zero_le _, rfl, Below.refl _ _⟩
  case round =>
    obtain ⟨k, rfl, hk, rfl, hB⟩ := hrel
    have hle := kindsL_le xs k
    by_cases hlt : k < xs.length
    · obtain ⟨y, hy⟩ := get_lt hlt
      have hcr : Hid (∀ j y, xs[j]? = some y → wr.cell? ⟨g, j, none⟩ = some (encN y)) := fun j y hj => (hB.cell (by exact hg)).trans (hH.out j y hj)
      have hc1 := hcr.out k y hy
      simp only [encN] at hc1
      have hY : Hid (xs.getD k 0 = y) := getD_some hy
      have hHB := hide hB
      clear hy
      have hkc : k ≤ c := by omega
      have hT : Hid ((xs.take k).length = k) := by show _ = _; rw [List.length_take]; omega
      have hTc : Hid (∀ j y, (xs.take k)[j]? = some y → wr.cell? ⟨g, j, none⟩ = some (encN y)) := fun j y hj => by
        rw [List.getElem?_take] at hj
        split at hj
        · exact hcr.out j y hj
        · cases hj
      clear hB
      by_cases hm : y ∈ xs.take k
      · have hs : Hid (kindsL xs (k + 1) = kindsL xs k) := by show _ = _; simp only [kindsL]; rw [hY.out, if_pos hm]; omega
        have hd : Hid (decide (y ∈ xs.take k) = true) := decide_eq_true hm
        clear hm
        go_wp2_with fail
        go_quiet ((go_at_call 115; exact Calls.quiet_of_same (has_at hd.out hT.out hTc.out (by omega))))
        go_wp2_with fail
        exact ⟨⟨k + 1, by go_num, by omega, by rw [hs.out], hHB.out.trans (((Kept.refl wr (fun _ => False)).drewN _).below hHB.out.size (fun _ _ h => h.elim))⟩, by simp [intOf]; omega⟩
      · have hs : Hid (kindsL xs (k + 1) = kindsL xs k + 1) := by show _ = _; simp only [kindsL]; rw [hY.out, if_neg hm]
        have hd : Hid (decide (y ∈ xs.take k) = false) := decide_eq_false hm
        clear hm
        go_wp2_with fail
        go_quiet ((go_at_call 115; exact Calls.quiet_of_same (has_at hd.out hT.out hTc.out (by omega))))
        go_wp2_with fail
        exact ⟨⟨k + 1, by go_num, by omega, by rw [hs.out]; go_num, hHB.out.trans (((Kept.refl wr (fun _ => False)).drewN _).below hHB.out.size (fun _ _ h => h.elim))⟩, by simp [intOf]; omega⟩
    · have : k = xs.length := by omega
      subst this
      go_wp2_with fail
      go_ret
      exact ⟨rfl, hB⟩
end Go.Proofs.Ytnimlcbgeiajiaa

namespace Go.Proofs.Ytnimlcbgeiajiaa
open Go.RowKit

def clN' (cl : List Nat) (i : Nat) : Nat := cl.getD i 0
def AlikeX (br : Nat → Nat → Nat → Nat) (cl : List Nat) (a b x k : Nat) : Prop := clN' cl (br x a k) = clN' cl (br x b k) ∧ clN' cl (br x k a) = clN' cl (br x k b)
def Alike (L n : Nat) (br : Nat → Nat → Nat → Nat) (cl : List Nat) (a b : Nat) : Prop := clN' cl a = clN' cl b ∧ ∀ x, x < L → ∀ k, k < n → AlikeX br cl a b x k

set_option maxHeartbeats 8000000 in
set_option maxRecDepth 100000 in
theorem alike_any {w : World} {L n gc cc a b : Nat} {vl vb va : Value} {lf : Nat → Nat} {br : Nat → Nat → Nat → Nat} {ac : Nat → Bool} {cl : List Nat} (h : TblF w L n vl vb va lf br ac) (hbr : ∀ x i k, x < L → i < n → k < n → br x i k < n)
    (hc : ∀ j, j < n → w.cell? ⟨gc, j, none⟩ = some (.int .i64 (clN' cl j : Int))) (hg : gc < w.heap.size) (ha : a < n) (hb : b < n) (hn : n ≤ 100000) (hL : L ≤ 8) :
    Calls Try.prog 108 #[.agg #[.int .i64 (L : Int), vl, vb, va], .slice (some ⟨gc, 0, none⟩) n cc, .int .i64 (a : Int), .int .i64 (b : Int)] w (Ret fun v w' => (∃ r : Bool, v = .bool r ∧ (r = true ↔ Alike L n br cl a b)) ∧ Below w.heap.size w w') := by
  obtain ⟨gv, cv, gi, ci, gj, cj, rfl, ht⟩ := h.tab
  obtain ⟨w1, hw1, hb1, hB1, hk1⟩ := box_blk w #[.int .i64 (L : Int), vl, .slice (some ⟨gv, 0, none⟩) L cv, va] 84
  have hT := hide ht
  have hOK := hide hbr
  have hC : Hid (∀ j, j < n → w1.cell? ⟨gc, j, none⟩ = some (.int .i64 (clN' cl j : Int))) := fun j hj => (hb1.cell (by exact hg)).trans (hc j hj)
  have hb01 := hide hb1
  have hcb := hB1.cell
  have e1 := hC.out a ha
  have e2 := hC.out b hb
  clear h ht hbr hc hb1
  by_cases h0 : clN' cl a = clN' cl b
  · have hH0 := hide h0
    have hd : ((clN' cl a : Int) == (clN' cl b : Int)) = true := by rw [h0]; simp
    go_enter Try.func108, Try.ntmps108
    go_wp2_with fail
    go_quiet (fail)
    go_wp2_with fail
    go_loopw [9] (fun xx wr => ∃ (x : Nat), xx = .int .i64 (x : Int) ∧ x ≤ L ∧ Below w1.heap.size w1 wr ∧ Hid (∀ x', x' < x → ∀ k, k < n → AlikeX br cl a b x' k)) (fun xx _ => L - (intOf xx).toNat)
    case atStart => exact ⟨0, rfl, Nat.zero_le _, ((Kept.refl w1 (fun _ => False)).drewN _).below (Nat.le_refl _) (fun _ _ h => h.elim), fun x hx => absurd hx (by omega)⟩
    case round =>
      obtain ⟨x, rfl, hx, hB, hE⟩ := hrel
      have hBr := hide (hB1.below hB)
      have hcr := hBr.out.cell
      have hHB := hide hB
      clear hB
      by_cases hlt : x < L
      · go_wp2_with fail
        obtain ⟨wa, hwa⟩ : ∃ wa : World, wa = wr := ⟨_, rfl⟩
        go_loopw [10] (fun kk wr2 => ∃ (k : Nat), kk = .int .i64 (k : Int) ∧ k ≤ n ∧ Below w1.heap.size w1 wr2 ∧ Hid (∀ k', k' < k → AlikeX br cl a b x k')) (fun kk _ => n - (intOf kk).toNat)
        case atStart => exact ⟨0, rfl, Nat.zero_le _, hHB.out, fun k hk => absurd hk (by omega)⟩
        case round =>
          obtain ⟨k, rfl, hk, hB2, hE2⟩ := hrel
          have hBr2 := hide (hB1.below hB2)
          have hcr2 := hBr2.out.cell
          have hHB2 := hide hB2
          clear hcr
          by_cases hkn : k < n
          · have hw2 := hb01.out.trans (hB2.mono hb01.out.size)
            have q1 := (hw2.cell (cell_lt' (hT.out x hlt).1)).trans (hT.out x hlt).1
            have q2 := (hw2.cell (cell_lt' ((hT.out x hlt).2 a ha).1)).trans ((hT.out x hlt).2 a ha).1
            have r2 := (hw2.cell (cell_lt' ((hT.out x hlt).2 b hb).1)).trans ((hT.out x hlt).2 b hb).1
            have s2 := (hw2.cell (cell_lt' ((hT.out x hlt).2 k hkn).1)).trans ((hT.out x hlt).2 k hkn).1
            have m1 := (hw2.cell (cell_lt' (((hT.out x hlt).2 a ha).2 k hkn))).trans (((hT.out x hlt).2 a ha).2 k hkn)
            have m2 := (hw2.cell (cell_lt' (((hT.out x hlt).2 b hb).2 k hkn))).trans (((hT.out x hlt).2 b hb).2 k hkn)
            have m3 := (hw2.cell (cell_lt' (((hT.out x hlt).2 k hkn).2 a ha))).trans (((hT.out x hlt).2 k hkn).2 a ha)
            have m4 := (hw2.cell (cell_lt' (((hT.out x hlt).2 k hkn).2 b hb))).trans (((hT.out x hlt).2 k hkn).2 b hb)
            have p1 := hOK.out x a k hlt ha hkn
            have p2 := hOK.out x b k hlt hb hkn
            have p3 := hOK.out x k a hlt hkn ha
            have p4 := hOK.out x k b hlt hkn hb
            obtain ⟨t1, ht1⟩ : ∃ y, br x a k = y := ⟨_, rfl⟩
            obtain ⟨t2, ht2⟩ : ∃ y, br x b k = y := ⟨_, rfl⟩
            obtain ⟨t3, ht3⟩ : ∃ y, br x k a = y := ⟨_, rfl⟩
            obtain ⟨t4, ht4⟩ : ∃ y, br x k b = y := ⟨_, rfl⟩
            have hAX : Hid (AlikeX br cl a b x k ↔ clN' cl t1 = clN' cl t2 ∧ clN' cl t3 = clN' cl t4) := by show _ ↔ _; unfold AlikeX; rw [ht1, ht2, ht3, ht4]
            rw [ht1] at m1 p1
            rw [ht2] at m2 p2
            rw [ht3] at m3 p3
            rw [ht4] at m4 p4
            have c1 := (hB2.cell (cell_lt' (hC.out t1 p1))).trans (hC.out t1 p1)
            have c2 := (hB2.cell (cell_lt' (hC.out t2 p2))).trans (hC.out t2 p2)
            have c3 := (hB2.cell (cell_lt' (hC.out t3 p3))).trans (hC.out t3 p3)
            have c4 := (hB2.cell (cell_lt' (hC.out t4 p4))).trans (hC.out t4 p4)
            clear hw2 ht1 ht2 ht3 ht4 hB2
            by_cases g1 : clN' cl t1 = clN' cl t2
            · have d1 : ((clN' cl t1 : Int) == (clN' cl t2 : Int)) = true := by rw [g1]; simp
              have d1' : (clN' cl t1 : Int) = (clN' cl t2 : Int) := by omega
              by_cases g2 : clN' cl t3 = clN' cl t4
              · have d2' : (clN' cl t3 : Int) = (clN' cl t4 : Int) := by omega
                have hgg : Hid (AlikeX br cl a b x k) := hAX.out.2 ⟨g1, g2⟩
                go_wp2_with fail
                go_quiet (fail)
                go_wp2_with fail
                refine ⟨⟨k + 1, by go_num, by omega, hHB2.out.trans (((Kept.refl _ (fun _ => False)).drewN _).below hHB2.out.size (fun _ _ h => h.elim)), fun k' hk' => ?_⟩, by simp [intOf]; omega⟩
                by_cases e : k' = k
                · subst e; exact hgg.out
                · exact hE2.out k' (by omega)
              · have d2' : ¬ (clN' cl t3 : Int) = (clN' cl t4 : Int) := by omega
                have hgg : Hid (¬ AlikeX br cl a b x k) := fun h => g2 (hAX.out.1 h).2
                go_wp2_with fail
                go_quiet (fail)
                go_wp2_with fail
                go_ret
                exact ⟨⟨false, rfl, by simp only [Bool.false_eq_true, false_iff]; exact fun h => hgg.out (h.2 x hlt k hkn)⟩, hb01.out.trans ((hHB2.out.trans (((Kept.refl _ (fun _ => False)).drewN _).below hHB2.out.size (fun _ _ h => h.elim))).mono hb01.out.size)⟩
            · have d1' : ¬ (clN' cl t1 : Int) = (clN' cl t2 : Int) := by omega
              have hgg : Hid (¬ AlikeX br cl a b x k) := fun h => g1 (hAX.out.1 h).1
              go_wp2_with fail
              go_quiet (fail)
              go_wp2_with fail
              go_ret
              exact ⟨⟨false, rfl, by simp only [Bool.false_eq_true, false_iff]; exact fun h => hgg.out (h.2 x hlt k hkn)⟩, hb01.out.trans ((hHB2.out.trans (((Kept.refl _ (fun _ => False)).drewN _).below hHB2.out.size (fun _ _ h => h.elim))).mono hb01.out.size)⟩
          · go_wp2_with fail
            refine ⟨⟨x + 1, by go_num, by omega, hHB2.out, fun x' hx' k' hk' => ?_⟩, by simp [intOf]; omega⟩
            by_cases e : x' = x
            · subst e; exact hE2.out k' (by omega)
            · exact hE.out x' (by omega) k' hk'
      · go_wp2_with fail
        go_ret
        exact ⟨⟨true, rfl, by simp only [true_iff]; exact ⟨hH0.out, fun x' hx' k' hk' => hE.out x' (by omega) k' hk'⟩⟩, hb01.out.trans (hHB.out.mono hb01.out.size)⟩
  · have hH0 := hide h0
    have hi : ¬ (clN' cl a : Int) = (clN' cl b : Int) := by omega
    go_enter Try.func108, Try.ntmps108
    go_wp2_with fail
    go_quiet (fail)
    go_wp2_with fail
    go_ret
    exact ⟨⟨false, rfl, by simp only [Bool.false_eq_true, false_iff]; exact fun h => hH0.out h.1⟩, hb01.out.trans (((Kept.refl w1 (fun _ => False)).drewN _).below hb01.out.size (fun _ _ h => h.elim))⟩
end Go.Proofs.Ytnimlcbgeiajiaa
