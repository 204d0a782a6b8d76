/-
  Part JF of a proof.
-/
import Derived.Test.YtakpmdmjbgipiaaGreatDoorPA
import Derived.Test.YtakpmdmjbgipiaaGreatDoorJA
import Derived.Test.YtakpmdmjbgipiaaGreatDoorPI
set_option maxHeartbeats 16000000
set_option maxRecDepth 100000
set_option linter.unusedVariables false
set_option linter.unusedSimpArgs false
namespace Go.Proofs.YtakpmdmjbgipiaaGreatDoor
open Go.RowKit
set_option maxHeartbeats 16000000
set_option maxRecDepth 100000
section
variable {S : Type} [DecidableEq S] {P : Program} {K : TypeId}
theorem findAsking_enc {enc : S → Value} (hE : ∀ w s t, (Op.equal K (enc s) (enc t)).run P w = .ok (decide (s = t)) w) (s : S) (w : World) (es : List MapEntry) : ∀ (l : List S) (i : Nat), es.map (·.key) = l.map enc →
  (Instr.findAsking K (enc s) es i).run P w = .ok (if s ∈ l then some (i + l.idxOf s, ((es[l.idxOf s]?).map (·.val)).getD .nilFunc) else none) w := by
 induction es with
 | nil =>
  intro l i h
  have : l = [] := by cases l <;> simp_all
  subst this
  simp [Instr.findAsking]
 | cons e es ih =>
  intro l i h
  cases l with
  | nil => simp at h
  | cons t l =>
   simp only [List.map_cons, List.cons.injEq] at h
   obtain ⟨h1, h2⟩ := h
   unfold Instr.findAsking
   rw [h1]
   simp only [Sem.run_bind, hE, Result.andThen_ok]
   by_cases hst : s = t
   ·subst hst
    simp
   ·simp only [hst, decide_false, Bool.false_eq_true, if_false]
    rw [ih l (i + 1) h2]
    have hidx : (t :: l).idxOf s = l.idxOf s + 1 := by
     rw [List.idxOf_cons]
     have : (t == s) = false := by simpa using fun e => hst e.symm
     rw [this]; rfl
    by_cases hsl : s ∈ l
    ·simp only [hsl, hidx, List.mem_cons, or_true, if_true, List.getElem?_cons_succ]
     have e2 : i + 1 + l.idxOf s = i + (l.idxOf s + 1) := by omega
     rw [e2]
    ·simp [hsl, hst]
theorem keyOK_ask {enc : S → Value} {d : TypeDesc} (hK : P.underlying K = some d) (hs : ∀ s t, Instr.sameNow d (enc s) (enc t) = none) (hc : ∀ em w s, (Instr.checkKey em 10000 K (enc s)).run P w = .ok () w)
  (hE : ∀ w s t, (Op.equal K (enc s) (enc t)).run P w = .ok (decide (s = t)) w) : KeyOK P K enc where
 check := hc
 find := fun w s es l h => by
  unfold Instr.findKey
  simp only [Sem.run_bind, run_underlying hK, Result.andThen_ok]
  cases es with
  | nil =>
   have : l = [] := by cases l <;> simp_all
   subst this
   simp [Instr.findNow]
  | cons e es =>
   cases l with
   | nil => simp at h
   | cons t l =>
    have hh := h
    simp only [List.map_cons, List.cons.injEq] at h
    have hn : Instr.findNow d (enc s) (e :: es) 0 = none := by
     unfold Instr.findNow
     rw [h.1, hs]
    rw [hn]
    have := findAsking_enc hE s w (e :: es) (t :: l) 0 hh
    simpa using this
end
def encP (s : Nat × Nat) : Value := .agg #[.int .i64 (s.1 : Int), .int .i64 (s.2 : Int)]
def cellsP (s : Nat × Nat) : List Value := [.int .i64 (s.1 : Int), .int .i64 (s.2 : Int)]
theorem t3s : Tryz.t3.size = 1 := by kernel_rfl
theorem eq3 (a b : Int) (d : Nat) (w : World) : (Op.equalIn (d+1) 3 (.int .i64 a) (.int .i64 b)).run Tryz.prog w = .ok (a == b) w := by
 simp [Op.equalIn, go_sem]
theorem eq157 (a b c d : Int) (w : World) : (Op.equalIn (9998 + 1 + 1) 144 (.agg #[.int .i64 a, .int .i64 b]) (.agg #[.int .i64 c, .int .i64 d])).run Tryz.prog w = .ok (a == c && b == d) w := by
 rw [Op.equalIn]
 by_cases h1 : a = c <;> by_cases h2 : b = d <;> simp [go_sem, List.range', eq3, part, isAgg, sizeOf, t3s, h1, h2]
theorem equalP (w : World) (s t : Nat × Nat) : (Op.equal 144 (encP s) (encP t)).run Tryz.prog w = .ok (decide (s = t)) w := by
 obtain ⟨a, b⟩ := s
 obtain ⟨c, d⟩ := t
 refine (eq157 a b c d w).trans ?_
 congr 1
 rw [Bool.eq_iff_iff]
 simp
 omega
theorem checkP (d0 : Nat) (em : Bool) (w : World) (s : Nat × Nat) : (Instr.checkKey em (d0 + 1 + 1) 144 (encP s)).run Tryz.prog w = .ok () w := by
 unfold encP
 simp [Instr.checkKey, go_sem, List.range', part, isAgg, sizeOf, t3s]
theorem keyP : KeyOK Tryz.prog 144 encP := keyOK_ask Tryz.underlying144 (fun _ _ => rfl) (fun em w s => checkP 9998 em w s) equalP
theorem info157 : (Tryz.prog.info? 144).map (fun i => (i.zero, i.size, i.bytes)) = some (some (.agg #[.int .i64 0, .int .i64 0]), 2, 16) := by kernel_rfl
theorem row157 : RowTy Tryz.prog 143 144 2 := rowTy_of Tryz.underlying143 info157 rfl (by omega) (by omega)
theorem flat2_get : ∀ {l : List (Nat × Nat)} {k j : Nat} {d : Nat × Nat}, l[k]? = some d → j < 2 → (l.flatMap cellsP)[k * 2 + j]? = (cellsP d)[j]?
 | [], _, _, _, h, _ => by simp at h
 | d :: l, 0, j, e, h, hj => by
  have : d = e := by simpa using h
  subst this
  rw [List.flatMap_cons, List.getElem?_append_left (by simp [cellsP]; omega)]
  match j, hj with
  | 0, _ => rfl
  | 1, _ => rfl
 | d :: l, k + 1, j, e, h, hj => by
  rw [List.flatMap_cons, List.getElem?_append_right (by simp [cellsP]; omega)]
  have h2 := flat2_get (l := l) (k := k) (j := j) (by simpa using h) hj
  have e2 : (k + 1) * 2 + j - (cellsP d).length = k * 2 + j := by simp [cellsP]; omega
  rw [e2]
  exact h2
theorem own_pair {w : World} {base n : Nat} {v : Value} {l : List (Nat × Nat)} (h : w.ownsRow base 144 2 v n (l.flatMap cellsP)) (hl : l.length = n) {k : Nat} {d : Nat × Nat} (hd : l[k]? = some d) :
  ∃ g cap, v = .slice (some ⟨g, 0, none⟩) n cap ∧ base ≤ g ∧ g < w.heap.size ∧ w.cell? ⟨g, k * 2, none⟩ = some (.int .i64 (d.1 : Int)) ∧ w.cell? ⟨g, k * 2 + 1, none⟩ = some (.int .i64 (d.2 : Int)) := by
 subst hl
 rcases h.2 with ⟨rfl, h0⟩ | ⟨g, cap, cur, rfl, hb, hh, hc, hs, hz, ht⟩
 ·have : l = [] := List.length_eq_zero_iff.1 h0
  subst this
  simp at hd
 ·refine ⟨g, cap, rfl, hb, (Array.getElem?_eq_some_iff.1 hh).1, ?_, ?_⟩
  ·rw [cell_of_row w g _ cur 144 (0, 0) hh]
   have := flat2_get hd (j := 0) (by omega)
   rw [← ht, List.getElem?_take] at this
   split at this
   ·simpa [cellsP] using this
   ·cases this
  ·rw [cell_of_row w g _ cur 144 (0, 0) hh]
   have := flat2_get hd (j := 1) (by omega)
   rw [← ht, List.getElem?_take] at this
   split at this
   ·simpa [cellsP] using this
   ·cases this
structure PrM (w0 wr : World) (g3 g4 g5 g7 g8 g9 gm : Nat) (ca cb : Array Value) (fv : Value) (f : Nat × Nat → Bool) (vN vA vP : Value) (all : List (Nat × Nat)) (t : List (List Nat)) (ws : List Value) (N : Nat → Prop) : Prop where
 below : Below w0.heap.size w0 wr
 b3 : Blk wr g3 52 ca
 b4 : Blk wr g4 52 cb
 b5 : Blk wr g5 67 #[fv]
 b7 : Blk wr g7 52 #[vN, vA]
 b8 : Blk wr g8 142 #[.map (some gm)]
 b9 : Blk wr g9 143 #[vP]
 map : IdxMap wr gm (all.map encP)
 prs : wr.ownsRow w0.heap.size 144 2 vP all.length (all.flatMap cellsP)
 acc : wr.ownsRow w0.heap.size 4 1 vA all.length ((all.map f).map Value.bool)
 nxt : wr.ownsRow w0.heap.size 22 1 vN t.length ws
 nxtR : RowsI wr w0.heap.size N ws (t.map natL)
 ne : g3 ≠ g7 ∧ g4 ≠ g7
 ge : w0.heap.size ≤ g7 ∧ w0.heap.size ≤ g8 ∧ w0.heap.size ≤ g9 ∧ w0.heap.size ≤ gm
section
variable {w0 wr w' : World} {g3 g4 g5 g7 g8 g9 gm : Nat} {ca cb : Array Value} {fv : Value} {f : Nat × Nat → Bool} {vN vA vP : Value} {all : List (Nat × Nat)} {t : List (List Nat)} {ws : List Value} {N : Nat → Prop}
theorem PrM.keep (h : PrM w0 wr g3 g4 g5 g7 g8 g9 gm ca cb fv f vN vA vP all t ws N) (hb : Below wr.heap.size wr w') : PrM w0 w' g3 g4 g5 g7 g8 g9 gm ca cb fv f vN vA vP all t ws N :=
 ⟨h.below.trans (hb.mono h.below.size), h.b3.below hb, h.b4.below hb, h.b5.below hb, h.b7.below hb, h.b8.below hb, h.b9.below hb, h.map.keep (hb.block _ h.map.lt), own_below h.prs hb,
  own_below h.acc hb, own_below h.nxt hb, h.nxtR.keep (Kept.of_below hb (fun _ => False)) (fun _ _ _ e => e.elim) (fun _ _ x => x) (Nat.le_refl _), h.ne, h.ge⟩
theorem PrM.weak {N' : Nat → Prop} (h : PrM w0 wr g3 g4 g5 g7 g8 g9 gm ca cb fv f vN vA vP all t ws N) (hN : ∀ g, g < wr.heap.size → N g → N' g) : PrM w0 wr g3 g4 g5 g7 g8 g9 gm ca cb fv f vN vA vP all t ws N' :=
 ⟨h.below, h.b3, h.b4, h.b5, h.b7, h.b8, h.b9, h.map, h.prs, h.acc, h.nxt, h.nxtR.keep (Kept.refl wr (fun _ => False)) (fun _ _ _ e => e.elim) hN (Nat.le_refl _), h.ne, h.ge⟩
theorem PrM.other (h : PrM w0 wr g3 g4 g5 g7 g8 g9 gm ca cb fv f vN vA vP all t ws N) {gr : Nat} {c3 : Array Value} (hN : ∀ g, N g → g ≠ gr) (hr : Blk wr gr 3 c3) (hg : w0.heap.size ≤ gr) (hk : Kept wr w' (fun k => k = gr)) : PrM w0 w' g3 g4 g5 g7 g8 g9 gm ca cb fv f vN vA vP all t ws N :=
 ⟨h.below.trans (hk.below h.below.size fun b hb e => by omega), h.b3.kept hk (h.b3.ne_ hr (by decide)), h.b4.kept hk (h.b4.ne_ hr (by decide)), h.b5.kept hk (h.b5.ne_ hr (by decide)), h.b7.kept hk (h.b7.ne_ hr (by decide)), h.b8.kept hk (h.b8.ne_ hr (by decide)), h.b9.kept hk (h.b9.ne_ hr (by decide)),
  h.map.kept hk (fun e => blk_map_ne hr h.map e.symm), own_ty hk h.prs (fun g cs e hB => by subst e; exact hB.ne_ hr (by decide) rfl),
  own_ty hk h.acc (fun g cs e hB => by subst e; exact hB.ne_ hr (by decide) rfl), own_ty hk h.nxt (fun g cs e hB => by subst e; exact hB.ne_ hr (by decide) rfl), h.nxtR.keep hk (fun g cs hn e _ => hN g hn e) (fun _ _ x => x) (Nat.le_refl _), h.ne, h.ge⟩
theorem PrM.add {p : Nat × Nat} {vP' vA' : Value} {wm w1 w2 w3 w4 : World} (h : PrM w0 wr g3 g4 g5 g7 g8 g9 gm ca cb fv f vN vA vP all t ws N)
  (hup : IdxMap wm gm ((all ++ [p]).map encP)) (hg : wr.grownBy wm (some gm)) (hgs : wm.heap.size = wr.heap.size)
  (hk1 : Kept wm w1 (fun k => vP.ownBlock = some k)) (ho1 : w1.ownsRow w0.heap.size 144 2 vP' (all.length + 1) (all.flatMap cellsP ++ cellsP p))
  (hw2 : w2 = w1.setCell ⟨g9, 0, none⟩ vP') (hb3 : Below w2.heap.size w2 w3)
  (hk4 : Kept w3 w4 (fun k => vA.ownBlock = some k)) (ho4 : w4.ownsRow w0.heap.size 4 1 vA' (all.length + 1) ((all.map f).map Value.bool ++ [.bool (f p)])) :
  PrM w0 (w4.setCell ⟨g7, 1, none⟩ vA') g3 g4 g5 g7 g8 g9 gm ca cb fv f vN vA' vP' (all ++ [p]) t ws N ∧ (∀ g cs, Blk wr g 3 cs → Blk (w4.setCell ⟨g7, 1, none⟩ vA') g 3 cs) ∧ ∀ g cs, vP.ownBlock ≠ some g → Blk wr g 144 cs → Blk (w4.setCell ⟨g7, 1, none⟩ vA') g 144 cs := by
 subst hw2
 have hkg : Kept wr wm (fun k => k = gm) := (Kept.of_grown hg).mono fun b _ e => (Option.some.inj e).symm
 have hk2 := (Kept.refl w1 (fun k => k = g9)).setCell (p := ⟨g9, 0, none⟩) (fun _ => rfl) vP'
 have hk3 : Kept (w1.setCell ⟨g9, 0, none⟩ vP') w3 (fun _ => False) := Kept.of_below hb3 _
 have hk5 := (Kept.refl w4 (fun k => k = g7)).setCell (p := ⟨g7, 1, none⟩) (fun _ => rfl) vA'
 have nm : ∀ {g e} {cs : Array Value}, Blk wr g e cs → g ≠ gm := fun hB e => blk_map_ne hB h.map e
 have hs0 := h.below.size
 have hall : Kept wr (w4.setCell ⟨g7, 1, none⟩ vA') (fun k => k = gm ∨ vP.ownBlock = some k ∨ k = g9 ∨ vA.ownBlock = some k ∨ k = g7) :=
  ((((hkg.mono fun _ _ e => .inl e).trans hk1 fun _ _ e => .inr (.inl e)).trans hk2 fun _ _ e => .inr (.inr (.inl e))).trans hk3 fun _ _ e => e.elim).trans hk4 (fun _ _ e => .inr (.inr (.inr (.inl e)))) |>.trans hk5 fun _ _ e => .inr (.inr (.inr (.inr e)))
 have hty : ∀ {e : TypeId}, e ≠ 144 → e ≠ 143 → e ≠ 4 → e ≠ 52 → ∀ g cs, (g = gm ∨ vP.ownBlock = some g ∨ g = g9 ∨ vA.ownBlock = some g ∨ g = g7) → ¬ Blk wr g e cs := by
  rintro e n1 n2 n3 n4 g cs (e1 | e1 | e1 | e1 | e1) hB
  ·exact nm hB e1
  ·exact own_blk_ne h.prs hB (fun hh => n1 hh.symm) e1
  ·exact hB.ne_ h.b9 n2 e1
  ·exact own_blk_ne h.acc hB (fun hh => n3 hh.symm) e1
  ·exact hB.ne_ h.b7 n4 e1
 have hbx : ∀ {g : Nat} {cs : Array Value}, g ≠ g7 → Blk wr g 52 cs → Blk (w4.setCell ⟨g7, 1, none⟩ vA') g 52 cs := fun hne hB => hB.kept hall (by
  rintro (e1 | e1 | e1 | e1 | e1)
  ·exact nm hB e1
  ·exact own_blk_ne h.prs hB (by decide) e1
  ·exact hB.ne_ h.b9 (by decide) e1
  ·exact own_blk_ne h.acc hB (by decide) e1
  ·exact hne e1)
 have m7 := h.b7.kept hkg (nm h.b7)
 have m9 := h.b9.kept hkg (nm h.b9)
 have mP := hkg.ownsRow h.prs fun g hg e => own_map_ne h.prs h.map (by rw [hg, e])
 have mA := hkg.ownsRow h.acc fun g hg e => own_map_ne h.acc h.map (by rw [hg, e])
 have n7 := m7.kept hk1 (own_blk_ne mP m7 (by decide))
 have n9 := m9.kept hk1 (own_blk_ne mP m9 (by decide))
 have nA := own_ty hk1 mA (not_blk mP (by decide))
 have nm1 := hup.kept hk1 (fun e => own_map_ne mP hup e)
 have o7 := (n7.kept hk2 (n7.ne_ n9 (by decide))).below hb3
 have o9 : Blk w3 g9 143 #[vP'] := (n9.set_ 0 vP').below hb3
 have oP := own_below (own_ty hk2 ho1 (fun g cs e hB => by subst e; exact hB.ne_ n9 (by decide) rfl)) hb3
 have oA := own_below (own_ty hk2 nA (fun g cs e hB => by subst e; exact hB.ne_ n9 (by decide) rfl)) hb3
 have om := (nm1.kept hk2 (fun e => blk_map_ne n9 nm1 e.symm)).keep (hb3.block _ (nm1.kept hk2 (fun e => blk_map_ne n9 nm1 e.symm)).lt)
 have p7 := o7.kept hk4 (own_blk_ne oA o7 (by decide))
 have pm := om.kept hk4 (fun e => own_map_ne oA om e)
 have hge := h.ge
 refine ⟨⟨h.below.trans (hall.below hs0 ?_), hbx h.ne.1 h.b3, hbx h.ne.2 h.b4, h.b5.kept hall (fun e => hty (by decide) (by decide) (by decide) (by decide) _ _ e h.b5), ?_, h.b8.kept hall (fun e => hty (by decide) (by decide) (by decide) (by decide) _ _ e h.b8), ?_, ?_, ?_, ?_, own_ty hall h.nxt (hty (by decide) (by decide) (by decide) (by decide)), ?_, h.ne, h.ge⟩, fun g cs hB => hB.kept hall (fun e => hty (by decide) (by decide) (by decide) (by decide) g cs e hB), fun g cs hne hB => hB.kept hall (by
  rintro (e1 | e1 | e1 | e1 | e1)
  ·exact nm hB e1
  ·exact hne e1
  ·exact hB.ne_ h.b9 (by decide) e1
  ·exact own_blk_ne h.acc hB (by decide) e1
  ·exact hB.ne_ h.b7 (by decide) e1)⟩
 ·rintro b hb (e | e | e | e | e)
  ·omega
  ·have := own_base h.prs e; omega
  ·omega
  ·have := own_base h.acc e; omega
  ·omega
 ·have := p7.set_ 1 vA'
  exact this
 ·exact (o9.kept hk4 (own_blk_ne oA o9 (by decide))).kept hk5 ((o9.kept hk4 (own_blk_ne oA o9 (by decide))).ne_ p7 (by decide))
 ·exact pm.kept hk5 (fun e => blk_map_ne p7 pm e.symm)
 ·rw [List.length_append, List.flatMap_append]
  have := own_ty hk5 (own_ty hk4 oP (not_blk oA (by decide))) (fun g cs e hB => by subst e; exact hB.ne_ p7 (by decide) rfl)
  simpa using this
 ·rw [List.length_append, List.map_append, List.map_append]
  exact own_ty hk5 ho4 (fun g cs e hB => by subst e; exact hB.ne_ p7 (by decide) rfl)
 ·exact h.nxtR.keep hall (fun g cs _ e => hty (by decide) (by decide) (by decide) (by decide) g cs e) (fun _ _ x => x) (Nat.le_refl _)
theorem PrM.rowAdd {row : List Nat} {gr c : Nat} {vN' : Value} {w2 : World} (h : PrM w0 wr g3 g4 g5 g7 g8 g9 gm ca cb fv f vN vA vP all t ws N)
  (hr : wr.ownsRow w0.heap.size 3 1 (.slice (some ⟨gr, 0, none⟩) row.length c) row.length (row.map fun y : Nat => Value.int .i64 (y : Int)))
  (hk : Kept wr w2 (fun k => vN.ownBlock = some k)) (ho : w2.ownsRow w0.heap.size 22 1 vN' (t.length + 1) (ws ++ [.slice (some ⟨gr, 0, none⟩) row.length c])) :
  PrM w0 (w2.setCell ⟨g7, 0, none⟩ vN') g3 g4 g5 g7 g8 g9 gm ca cb fv f vN' vA vP all (t ++ [row]) (ws ++ [.slice (some ⟨gr, 0, none⟩) row.length c]) (fun _ => True) := by
 have hk2 := (Kept.refl w2 (fun k => k = g7)).setCell (p := ⟨g7, 0, none⟩) (fun _ => rfl) vN'
 have hs := h.below.size
 have n7 := h.b7.kept hk (own_blk_ne h.nxt h.b7 (by decide))
 have hall : Kept wr (w2.setCell ⟨g7, 0, none⟩ vN') (fun k => vN.ownBlock = some k ∨ k = g7) := (hk.mono fun _ _ e => .inl e).trans hk2 fun _ _ e => .inr e
 have hty : ∀ {e : TypeId}, e ≠ 22 → e ≠ 52 → ∀ g cs, (vN.ownBlock = some g ∨ g = g7) → ¬ Blk wr g e cs := by
  rintro e h1 h2 g cs (e1 | e1) hB
  ·exact own_blk_ne h.nxt hB (fun hh => h1 hh.symm) e1
  ·exact hB.ne_ h.b7 h2 e1
 have hblk : ∀ {g : Nat} {e : TypeId} {cs : Array Value}, e ≠ 22 → e ≠ 52 → Blk wr g e cs → Blk (w2.setCell ⟨g7, 0, none⟩ vN') g e cs := fun h1 h2 hB => hB.kept hall fun hx => hty h1 h2 _ _ hx hB
 have hbx : ∀ {g : Nat} {cs : Array Value}, g ≠ g7 → Blk wr g 52 cs → Blk (w2.setCell ⟨g7, 0, none⟩ vN') g 52 cs := fun hne hB => hB.kept hall (by
  rintro (e1 | e1)
  ·exact own_blk_ne h.nxt hB (by decide) e1
  ·exact hne e1)
 have hge := h.ge
 refine ⟨h.below.trans (hall.below hs ?_), hbx h.ne.1 h.b3, hbx h.ne.2 h.b4, hblk (by decide) (by decide) h.b5, ?_, hblk (by decide) (by decide) h.b8, hblk (by decide) (by decide) h.b9, ?_, own_ty hall h.prs (hty (by decide) (by decide)), own_ty hall h.acc (hty (by decide) (by decide)), ?_, ?_, h.ne, h.ge⟩
 ·rintro b hb (e | e)
  ·have := own_base h.nxt e; omega
  ·omega
 ·exact n7.set_ 0 vN'
 ·exact h.map.kept hall (by
   rintro (e | e)
   ·exact own_map_ne h.nxt h.map e
   ·exact blk_map_ne h.b7 h.map e.symm)
 ·rw [List.length_append]
  exact own_ty hk2 ho (fun g cs e hB => by subst e; exact hB.ne_ n7 (by decide) rfl)
 ·rw [List.map_append]
  refine RowsI.snoc (h.nxtR.keep hall (fun g cs _ e => hty (by decide) (by decide) g cs e) (fun _ _ _ => trivial) (Nat.le_refl _)) ?_ (fun _ _ => trivial)
  have := own_ty hall hr (hty (by decide) (by decide))
  have e : (natL row).map (Value.int .i64) = row.map fun y : Nat => Value.int .i64 (y : Int) := by simp [natL]
  have el : (natL row).length = row.length := by simp [natL]
  rw [e, el]
  exact this
theorem PrM.fin {wF : World} (h : PrM w0 wr g3 g4 g5 g7 g8 g9 gm ca cb fv f vN vA vP all t ws N) (hk : Kept wr wF (fun k => k < w0.heap.size)) (hl : ∀ r ∈ t, r.length ≤ 4000000) (ht : t.length ≤ 4000000) (ha : all.length ≤ 4000000) :
  IsDF wF wF.heap.size (.agg #[vN, vA]) t (all.map f) := by
 have hN := hk.ownsRow h.nxt fun g hg e => by have := own_base h.nxt hg; omega
 have hA := hk.ownsRow h.acc fun g hg e => by have := own_base h.acc hg; omega
 have hR : RowsI wF w0.heap.size (fun _ => True) ws (t.map natL) := h.nxtR.imp fun v d hh => ⟨hk.ownsRow hh.1 fun g hg e => by have := own_base hh.1 hg; omega, fun _ _ => trivial⟩
 obtain ⟨A1, c1, e1, h1⟩ := RowsI.read hR hN ht (Nat.le_refl _) (fun d hd => by
  obtain ⟨r, hr, rfl⟩ := List.mem_map.1 hd
  have := hl r hr
  simpa [natL] using this)
 obtain ⟨A2, c2, e2, h2⟩ := own_slB (B := wF.heap.size) hA (by simp) (Nat.le_refl _) (by omega)
 rw [List.length_map] at e1
 exact ⟨A1, c1, A2, c2, by rw [e1, e2], vsl_nat h1, h2⟩
end
end Go.Proofs.YtakpmdmjbgipiaaGreatDoor
namespace Go.Proofs.YtakpmdmjbgipiaaGreatDoor
open Go.RowKit
set_option maxHeartbeats 16000000
set_option maxRecDepth 100000
def OpF (F : Nat) (op : Bool → Bool → Bool) : Prop := (F = 33 ∧ op = fun x y => x || y) ∨ (F = 35 ∧ op = fun x y => x && y) ∨ (F = 63 ∧ op = fun x y => x && !y)
theorem op79 (x y : Bool) (w : World) : Calls Tryz.prog 33 #[.bool x, .bool y] w fun e w' => e = .returned (.bool (x || y)) ∧ w = w' := by
 cases x
 all_goals
  go_enter Tryz.func33, Tryz.ntmps33
  go_wp2_with fail
  go_ret
  exact ⟨by simp, rfl⟩
theorem op80 (x y : Bool) (w : World) : Calls Tryz.prog 35 #[.bool x, .bool y] w fun e w' => e = .returned (.bool (x && y)) ∧ w = w' := by
 cases x
 all_goals
  go_enter Tryz.func35, Tryz.ntmps35
  go_wp2_with fail
  go_ret
  exact ⟨by simp, rfl⟩
theorem op103 (x y : Bool) (w : World) : Calls Tryz.prog 63 #[.bool x, .bool y] w fun e w' => e = .returned (.bool (x && !y)) ∧ w = w' := by
 cases x
 all_goals
  go_enter Tryz.func63, Tryz.ntmps63
  go_wp2_with fail
  go_ret
  exact ⟨by simp, rfl⟩
theorem op_any {F : Nat} {op : Bool → Bool → Bool} (h : OpF F op) (x y : Bool) (w : World) : Calls Tryz.prog F #[.bool x, .bool y] w fun e w' => e = .returned (.bool (op x y)) ∧ w = w' := by
 rcases h with ⟨rfl, rfl⟩ | ⟨rfl, rfl⟩ | ⟨rfl, rfl⟩
 ·exact op79 x y w
 ·exact op80 x y w
 ·exact op103 x y w
def Stay (wr w' : World) (vP vP' : Value) : Prop := (∀ g cs, Blk wr g 3 cs → Blk w' g 3 cs) ∧ ∀ g cs, vP.ownBlock ≠ some g → Blk wr g 144 cs → Blk w' g 144 cs ∧ vP'.ownBlock ≠ some g
section
variable {w0 wr : World} {g3 g4 g5 g7 g8 g9 gm F n1 n2 d1 d2 e1 e2 : Nat} {P1 P2 Q1 Q2 : Option Addr} {ac bc : List Bool} {op : Bool → Bool → Bool} {vN vA vP : Value} {all : List (Nat × Nat)} {t : List (List Nat)} {ws : List Value} {N : Nat → Prop} {p : Nat × Nat}
theorem prod1_old {fv : Value} {ca cb : Array Value} {f : Nat × Nat → Bool} (h : PrM w0 wr g3 g4 g5 g7 g8 g9 gm ca cb fv f vN vA vP all t ws N) (hmem : p ∈ all) :
  Calls Tryz.prog 91 #[encP p, .pointer (some ⟨g8, 0, none⟩), .pointer (some ⟨g9, 0, none⟩), .pointer (some ⟨g7, 0, none⟩), .pointer (some ⟨g5, 0, none⟩), .pointer (some ⟨g3, 0, none⟩), .pointer (some ⟨g4, 0, none⟩)] wr (Ret fun v w' => v = .int .i64 (posL all p : Int) ∧ Below wr.heap.size wr w') := by
 obtain ⟨w1, hw1, hb1, hB1, hk1⟩ := box_blk wr #[.int .i64 (p.1 : Int), .int .i64 (p.2 : Int)] 144
 have h1 := h.keep hb1
 have hc8 := h1.b8.cell
 have hcb := hB1.cell
 have hlk := run_idx_lookup keyP Tryz.underlying142 zero3 h1.map p
 simp only [hmem, if_true, decide_true, encP] at hlk
 have hb1H := hide hb1
 clear h h1 hmem hk1 hB1 hb1
 unfold encP
 go_enter Tryz.func91, Tryz.ntmps91
 go_wp2_with fail
 go_ret
 exact ⟨rfl, hb1H.out⟩
theorem prod1_new (hF : OpF F op) (h : PrM w0 wr g3 g4 g5 g7 g8 g9 gm #[.slice P1 n1 d1, .slice Q1 ac.length e1] #[.slice P2 n2 d2, .slice Q2 bc.length e2] (.func (.func F) #[] #[]) (accPr op ac bc) vN vA vP all t ws N)
  (hQ1 : Sl w0 w0.heap.size 1 encB Q1 ac) (hQ2 : Sl w0 w0.heap.size 1 encB Q2 bc) (hp : p.1 < ac.length ∧ p.2 < bc.length) (hl : all.length ≤ 300000) (hmem : p ∉ all) :
  Calls Tryz.prog 91 #[encP p, .pointer (some ⟨g8, 0, none⟩), .pointer (some ⟨g9, 0, none⟩), .pointer (some ⟨g7, 0, none⟩), .pointer (some ⟨g5, 0, none⟩), .pointer (some ⟨g3, 0, none⟩), .pointer (some ⟨g4, 0, none⟩)] wr (Ret fun v w' => v = .int .i64 (all.length : Int) ∧ ∃ vA' vP', PrM w0 w' g3 g4 g5 g7 g8 g9 gm #[.slice P1 n1 d1, .slice Q1 ac.length e1] #[.slice P2 n2 d2, .slice Q2 bc.length e2] (.func (.func F) #[] #[]) (accPr op ac bc) vN vA' vP' (all ++ [p]) t ws N ∧ Stay wr w' vP vP') := by
 obtain ⟨w1, hw1, hb1, hB1, hk1⟩ := box_blk wr #[.int .i64 (p.1 : Int), .int .i64 (p.2 : Int)] 144
 have h1 := h.keep hb1
 have hne := hide (fun g (e : vP.ownBlock = some g) => own_lt h.prs e)
 have hc8 := h1.b8.cell
 have hc9 := h1.b9.cell
 have hcb := hB1.cell
 have hlk := run_idx_lookup keyP Tryz.underlying142 zero3 h1.map p
 obtain ⟨wm, hup, hup2, hg, hgs⟩ := run_idx_store keyP Tryz.underlying142 h1.map p hmem
 simp only [hmem, if_false, decide_false, encP] at hlk
 simp only [encP] at hup
 have hkg : Kept w1 wm (fun k => k = gm) := (Kept.of_grown hg).mono fun b _ e => (Option.some.inj e).symm
 have hb9m := h1.b9.kept hkg (fun e => blk_map_ne h1.b9 h1.map e)
 have hbxm := hB1.kept hkg (fun e => blk_map_ne hB1 h1.map e)
 have hc9m := hb9m.cell
 have hcbm := hbxm.cell
 have hPm := hkg.ownsRow h1.prs fun g hg' e => own_map_ne h1.prs h1.map (by rw [hg', e])
 obtain ⟨AP, cP, rfl⟩ := slice_of_own h1.prs
 have hs0 := h1.below.size
 have h1H := hide h1
 have hgH := hide hg
 have hgsH := hide hgs
 have hupH := hide hup2
 have hb1H := hide hb1
 have hbm : w0.heap.size ≤ wm.heap.size := by omega
 have hl1 : wr.heap.size < w1.heap.size := hB1.lt
 have hopF := hide (fun x y wx => op_any hF x y wx)
 have hF3 : F = 33 ∨ F = 35 ∨ F = 63 := by rcases hF with ⟨e, -⟩ | ⟨e, -⟩ | ⟨e, -⟩ <;> simp [e]
 clear h h1 hmem hk1 hB1 hb1 hg hup2 hF hgs
 unfold encP
 go_enter Tryz.func91, Tryz.ntmps91
 go_wp2_with (at_builtin; refine wpList_app_new row157 rfl _ _ rfl w0.heap.size (.slice AP all.length cP) all.length _ rfl hPm [.int .i64 (p.1 : Int), .int .i64 (p.2 : Int)] 1 rfl rfl (by simp [Value.oneCell']) (by omega) hbm ?_; intro g cap w2 hown2 hk2 hmv2 hg2; have hb92 := hb9m.kept hk2 (own_blk_ne hPm hb9m (by decide)); have hbx2 := hbxm.kept hk2 (fun e => Nat.lt_irrefl _ (hne.out _ e)); have hc92 := hb92.cell; have hf92 := hb92.frozen 0; have hl92 := hb92.lt)
 obtain ⟨w3, hw3⟩ : ∃ w3, w3 = w2.setCell ⟨g9, 0, none⟩ (.slice (some ⟨g, 0, none⟩) (all.length + 1) cap) := ⟨_, rfl⟩
 rw [← hw3]
 have hk23 : Kept w2 w3 (fun k => k = g9) := by rw [hw3]; exact (Kept.refl w2 (fun k => k = g9)).setCell (p := ⟨g9, 0, none⟩) (fun _ => rfl) _
 have hall : Kept w1 w3 (fun k => k = gm ∨ (Value.slice AP all.length cP).ownBlock = some k ∨ k = g9) := (((hkg.mono (fun _ _ e => .inl e)).trans hk2 (fun _ _ e => .inr (.inl e))).trans hk23 (fun _ _ e => .inr (.inr e)))
 have hty : ∀ {e : TypeId}, e ≠ 144 → e ≠ 143 → ∀ g cs, (g = gm ∨ (Value.slice AP all.length cP).ownBlock = some g ∨ g = g9) → ¬ Blk w1 g e cs := by
  rintro e n1 n2 g cs (e1 | e1 | e1) hB
  ·exact blk_map_ne hB h1H.out.map e1
  ·exact own_blk_ne h1H.out.prs hB (fun hh => n1 hh.symm) e1
  ·exact hB.ne_ h1H.out.b9 n2 e1
 have hb73 := h1H.out.b7.kept hall (fun e => hty (by decide) (by decide) _ _ e h1H.out.b7)
 have hb33 := h1H.out.b3.kept hall (fun e => hty (by decide) (by decide) _ _ e h1H.out.b3)
 have hb43 := h1H.out.b4.kept hall (fun e => hty (by decide) (by decide) _ _ e h1H.out.b4)
 have hb53 := h1H.out.b5.kept hall (fun e => hty (by decide) (by decide) _ _ e h1H.out.b5)
 have hbx3 := hbx2.kept hk23 (fun e => hbx2.ne_ hb92 (by decide) e)
 have hA3 : w3.ownsRow w0.heap.size 4 1 vA all.length ((all.map (accPr op ac bc)).map Value.bool) := own_ty hall h1H.out.acc (hty (by decide) (by decide))
 have hge := h1H.out.ge
 have h03 : Below w0.heap.size w0 w3 := h1H.out.below.trans (hall.below hs0 (by
  rintro b hb (e | e | e)
  ·omega
  ·have := own_base h1H.out.prs e; omega
  ·omega))
 obtain ⟨p1, p2⟩ := p
 dsimp only at *
 obtain ⟨x, hx⟩ := get_lt hp.1
 obtain ⟨y, hy⟩ := get_lt hp.2
 obtain ⟨k1, o1, rfl, hk1, hcx⟩ := sl_boolat hQ1 hx
 obtain ⟨k2', o2, rfl, hk2', hcy⟩ := sl_boolat hQ2 hy
 have hcx3 := (h03.cell (p := ⟨k1, o1 + p1, none⟩) hk1).trans hcx
 have hcy3 := (h03.cell (p := ⟨k2', o2 + p2, none⟩) hk2').trans hcy
 have hxd : accPr op ac bc (p1, p2) = op x y := by
  show op (dac ac p1) (dac bc p2) = _
  unfold dac
  rw [getD_some hx, getD_some hy]
 have hn1 := hQ1.1
 have hn2 := hQ2.1
 have hp1 := hp.1
 have hp2 := hp.2
 obtain ⟨na, hna⟩ : ∃ na, na = ac.length := ⟨_, rfl⟩
 obtain ⟨nb, hnb⟩ : ∃ nb, nb = bc.length := ⟨_, rfl⟩
 rw [← hna] at hn1 hp1 hb33
 rw [← hnb] at hn2 hp2 hb43
 have hc33 := hb33.cell
 have hc43 := hb43.cell
 have hc53 := hb53.cell
 have hc73 := hb73.cell
 have hcx33 := hbx3.cell
 obtain ⟨AA, cA, rfl⟩ := slice_of_own hA3
 have hs03 := h03.size
 have hb73H := hide hb73
 have hw3H := hide hw3
 have hownH := hide hown2
 have hmv2 := hide hmv2
 have hxdH := hide hxd
 have hkH := hide hk2
 have hA3H := hide hA3
 clear hlk hup hc8 hc9 hc9m hcb hcbm hc92 hf92 hl92 hb73 hb33 hb43 hb53 hbx3 hw3 h03 hcx hcy hx hy hQ1 hQ2 hbxm hbx2 hb9m hb92 hk23 hall hty hge hxd hown2 hk2 hA3 hp hna hnb
 rcases hF3 with rfl | rfl | rfl
 all_goals
  refine Reg.cC [0, 1, 0, 0, 8, 0, 32, 120, 248, 0, 512, 0, 2048, 7680, 15872, 32764, 65532, 131071, 262143, 524287] [0, 1, 2, 3, 4, 5, 6, 7, 8, 9, 10, 11, 12, 13, 14, 15, 16, 17, 18, 19] ?_
  refine Reg.rest_walk' [0, 1, 2, 3, 4, 5, 6, 7, 8, 9, 10, 11, 12, 13, 14] [15, 16, 17, 18, 19] rfl (by kernel_rfl) ?_
  intro Qf hQf
  go_wp2_with fail
  first | refine hQf _ _ ?_ | skip
  try clear hQf
  refine Reg.rest_act' 15 [16, 17, 18, 19] [1] rfl (by kernel_rfl) ?_
  intro Qf hQf
  simp only [gT, gS, gZ]
  go_wp2_with fail
  refine (hopF.out x y _).mono ?_
  rintro v w4 ⟨rfl, rfl⟩
  go_wp2_with fail
  first | refine hQf _ _ ⟨Reg.same_below (Below.refl _ _) _ rfl, ?_⟩ | refine ⟨Reg.same_below (Below.refl _ _) _ rfl, ?_⟩
  try clear hQf
  have hA4 := own_below hA3H.out (drewB w3)
  have hb74 := hb73H.out.below (drewB w3)
  refine Reg.rest_walk' [16] [17, 18, 19] rfl (by kernel_rfl) ?_
  intro Qf hQf
  go_wp2_with fail
  first | refine hQf _ _ ?_ | skip
  try clear hQf
  refine Reg.rest_act' 17 [18, 19] [] rfl (by kernel_rfl) ?_
  intro Qf hQf
  simp only [gT, gS, gZ]
  refine wpList_app_new row4 rfl _ _ rfl w0.heap.size (.slice AA all.length cA) all.length _ rfl hA4 [.bool (op x y)] 1 rfl rfl (by simp [Value.oneCell']) (by omega) (by have := (drewB w3).size; omega) ?_
  intro g' cap' w5 hown5 hk5 hmv5 hg5
  have hb75 := hb74.kept hk5 (own_blk_ne hA4 hb74 (by decide))
  have hc75 := hb75.cell
  have hf75 := hb75.frozen 1
  have hl75 := hb75.lt
  refine hQf _ _ ⟨Reg.nm, ?_⟩
  clear hQf
  refine Reg.rest_walk' [18, 19] [] rfl (by kernel_rfl) ?_
  intro Qf hQf
  go_wp2_with fail
  first | refine hQf _ _ ?_ | skip
  try clear hQf
  refine Reg.rest_end ?_
  rw [← hxdH.out] at hown5
  obtain ⟨hfin, h3b, h157⟩ := h1H.out.add (p := (p1, p2)) hupH.out hgH.out hgsH.out hkH.out hownH.out hw3H.out (drewB w3) hk5 hown5
  go_wp2_with fail
  go_ret
  exact ⟨rfl, _, _, hfin, fun g cs hB => h3b g cs (hB.below hb1H.out), fun g cs hne' hB => ⟨h157 g cs hne' (hB.below hb1H.out), fun e => by
   rcases hmv2.out with hh | ⟨g2, hh, hlt⟩
   ·exact hne' (by rw [← hh]; exact e)
   ·rw [e] at hh
    have e5 := Option.some.inj hh
    have := hB.lt
    have := hgsH.out
    omega⟩⟩
theorem prod1_any (hF : OpF F op) (h : PrM w0 wr g3 g4 g5 g7 g8 g9 gm #[.slice P1 n1 d1, .slice Q1 ac.length e1] #[.slice P2 n2 d2, .slice Q2 bc.length e2] (.func (.func F) #[] #[]) (accPr op ac bc) vN vA vP all t ws N)
  (hQ1 : Sl w0 w0.heap.size 1 encB Q1 ac) (hQ2 : Sl w0 w0.heap.size 1 encB Q2 bc) (hp : p.1 < ac.length ∧ p.2 < bc.length) (hl : all.length ≤ 300000) :
  Calls Tryz.prog 91 #[encP p, .pointer (some ⟨g8, 0, none⟩), .pointer (some ⟨g9, 0, none⟩), .pointer (some ⟨g7, 0, none⟩), .pointer (some ⟨g5, 0, none⟩), .pointer (some ⟨g3, 0, none⟩), .pointer (some ⟨g4, 0, none⟩)] wr (Ret fun v w' => v = .int .i64 (posL (meetL all p) p : Int) ∧ ∃ vA' vP', PrM w0 w' g3 g4 g5 g7 g8 g9 gm #[.slice P1 n1 d1, .slice Q1 ac.length e1] #[.slice P2 n2 d2, .slice Q2 bc.length e2] (.func (.func F) #[] #[]) (accPr op ac bc) vN vA' vP' (meetL all p) t ws N ∧ Stay wr w' vP vP') := by
 by_cases hmem : p ∈ all
 ·rw [meet_old hmem]
  refine Calls.ret (prod1_old h hmem) ?_
  rintro v w' ⟨rfl, hb⟩
  exact ⟨rfl, vA, vP, h.keep hb, fun g cs hB => hB.below hb, fun g cs hne hB => ⟨hB.below hb, hne⟩⟩
 ·rw [meet_new hmem, pos_new hmem]
  exact prod1_new hF h hQ1 hQ2 hp hl hmem
end
end Go.Proofs.YtakpmdmjbgipiaaGreatDoor
