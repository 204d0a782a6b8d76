/-
  (*builder[both]).meet: keys that are structs; the walk.
  (*builder[both]).build: the innermost loop: a row is filled.
  (*builder[both]).build: the loop over the second children.
  (*builder[both]).build: the loop over the first children.
  (*builder[both]).build: the rounds.
  (*builder[both]).build: the loop over the letters' leaves.
  (*builder[both]).build: the loop over the states' acceptance.
  (*builder[both]).build: the walk, its loops joined.
-/
import Derived.Test.YtnimlcbgeiajiaaQG
import Derived.Test.YtnimlcbgeiajiaaQB

namespace Go.Proofs.Ytnimlcbgeiajiaa
open Go.RowKit

section
variable {S : Type} [DecidableEq S] {P : Program} {K : TypeId}
theorem findAsking_enc {enc : S → Value} (hE : ∀ w s t, (Op.equal K (enc s) (enc t)).run P w = .ok (decide (s = t)) w) (s : S) (w : World) (es : List MapEntry) : ∀ (l : List S) (i : Nat), es.map (·.key) = l.map enc →
    (Instr.findAsking K (enc s) es i).run P w = .ok (if s ∈ l then some (i + l.idxOf s, ((es[l.idxOf s]?).map (·.val)).getD .nilFunc) else none) w := by
  induction es with
  | nil =>
    intro l i h
    have : l = [] := by cases l <;> simp_all
    subst this
    simp [Instr.findAsking]
  | cons e es ih =>
    intro l i h
    cases l with
    | nil => simp at h
    | cons t l =>
      simp only [List.map_cons, List.cons.injEq] at h
      obtain ⟨h1, h2⟩ := h
      unfold Instr.findAsking
      rw [h1]
      simp only [Sem.run_bind, hE, Result.andThen_ok]
      by_cases hst : s = t
      · subst hst
        simp
      · simp only [hst, decide_false, Bool.false_eq_true, if_false]
        rw [ih l (i + 1) h2]
        have hidx : (t :: l).idxOf s = l.idxOf s + 1 := by
          rw [List.idxOf_cons]
          have : (t == s) = false := by simpa using fun e => hst e.symm
          rw [this]; rfl
        by_cases hsl : s ∈ l
        · simp only [hsl, hidx, List.mem_cons, or_true, if_true, List.getElem?_cons_succ]
          have e2 : i + 1 + l.idxOf s = i + (l.idxOf s + 1) := by omega
          rw [e2]
        · simp [hsl, hst]
theorem keyOK_ask {enc : S → Value} {d : TypeDesc} (hK : P.underlying K = some d) (hs : ∀ s t, Instr.sameNow d (enc s) (enc t) = none) (hc : ∀ em w s, (Instr.checkKey em 10000 K (enc s)).run P w = .ok () w)
    (hE : ∀ w s t, (Op.equal K (enc s) (enc t)).run P w = .ok (decide (s = t)) w) : KeyOK P K enc where
  check := hc
  find := fun w s es l h => by
    unfold Instr.findKey
    simp only [Sem.run_bind, run_underlying hK, Result.andThen_ok]
    cases es with
    | nil =>
      have : l = [] := by cases l <;> simp_all
      subst this
      simp [Instr.findNow]
    | cons e es =>
      cases l with
      | nil => simp at h
      | cons t l =>
        have hh := h
        simp only [List.map_cons, List.cons.injEq] at h
        have hn : Instr.findNow d (enc s) (e :: es) 0 = none := by
          unfold Instr.findNow
          rw [h.1, hs]
        rw [hn]
        have := findAsking_enc hE s w (e :: es) (t :: l) 0 hh
        simpa using this
end

def encP (s : Nat × Nat) : Value := .agg #[.int .i64 (s.1 : Int), .int .i64 (s.2 : Int)]
def cellsP (s : Nat × Nat) : List Value := [.int .i64 (s.1 : Int), .int .i64 (s.2 : Int)]
theorem eq118 (a b c d : Int) (w : World) : (Op.equalIn 10000 118 (.agg #[.int .i64 a, .int .i64 b]) (.agg #[.int .i64 c, .int .i64 d])).run Try.prog w = .ok (a == c && b == d) w := by
  by_cases h1 : a = c <;> by_cases h2 : b = d <;> simp [go_sem, h1, h2]
theorem equalP (w : World) (s t : Nat × Nat) : (Op.equal 118 (encP s) (encP t)).run Try.prog w = .ok (decide (s = t)) w := by
  obtain ⟨a, b⟩ := s
  obtain ⟨c, d⟩ := t
  refine (eq118 a b c d w).trans ?_
  congr 1
  rw [Bool.eq_iff_iff]
  simp
  omega
theorem checkP (d0 : Nat) (em : Bool) (w : World) (s : Nat × Nat) : (Instr.checkKey em (d0 + 1 + 1) 118 (encP s)).run Try.prog w = .ok () w := by
  unfold encP
  simp [Instr.checkKey, go_sem]
theorem keyP : KeyOK Try.prog 118 encP := keyOK_ask Try.underlying118 (fun _ _ => rfl) (fun em w s => checkP 9998 em w s) equalP

theorem info118 : (Try.prog.info? 118).map (fun i => (i.zero, i.size, i.bytes)) = some (some (.agg #[.int .i64 0, .int .i64 0]), 2, 16) := by kernel_rfl
theorem row123 : RowTy Try.prog 123 118 2 := rowTy_of Try.underlying123 info118 rfl (by omega) (by omega)

namespace PB
/-- The builder's memory: its struct in block gb, its map in block gm, its list the slice vl. -/
structure BldU (w : World) (base gb gm : Nat) (c0 c1 c4 c5 c6 : Value) (vl : Value) (l : List (Nat × Nat)) : Prop where
  blk : Blk w gb 125 #[c0, c1, .map (some gm), vl, c4, c5, c6]
  map : IdxMap w gm (l.map encP)
  row : w.ownsRow base 118 2 vl l.length (l.flatMap cellsP)

set_option maxHeartbeats 2000000 in
set_option maxRecDepth 100000 in
theorem meetU_old (w : World) (base gb gm : Nat) (c0 c1 c4 c5 c6 vl : Value) (l : List (Nat × Nat)) (s : Nat × Nat) (h : BldU w base gb gm c0 c1 c4 c5 c6 vl l) (hs : s ∈ l) :
    Calls Try.prog 110 #[.pointer (some ⟨gb, 0, none⟩), encP s] w (Ret fun v w' => v = .int .i64 (numL l s : Int) ∧ Below w.heap.size w w') := by
  obtain ⟨w1, hw1, hb1, hB1, hk1⟩ := box_blk w #[.int .i64 (s.1 : Int), .int .i64 (s.2 : Int)] 118
  have hblk1 := h.blk.kept hk1 id
  have hmap1 := h.map.kept hk1 id
  have hc := hblk1.cell
  have hcb := hB1.cell
  have hmapd : IdxMap w1.drew gm (l.map encP) := hmap1
  have hlk := run_idx_lookup keyP Try.underlying122 zero3 hmapd s
  simp only [hs, if_true, decide_true, encP] at hlk
  have hst := hide (hb1.trans ((drew_below w1).mono hb1.size))
  clear hmapd hmap1
  unfold encP
  go_enter Try.func110, Try.ntmps110
  go_wp2_with fail
  refine Reg.region_plain [0, 1, 3, 7, 0, 31, 63, 127, 127, 255, 1023] (by kernel_rfl) (by repeat (first | exact Reg.NoQ.body (fun _ _ h => h) (fun _ h => h) | refine Reg.NoQ.then ?_ | refine Reg.NoQ.inBlock ?_)) ?_
  go_wp2_with fail
  go_ret
  refine ⟨?_, hst.out⟩
  simp [numL]

set_option maxHeartbeats 4000000 in
set_option maxRecDepth 100000 in
theorem meetU_new (w : World) (base gb gm : Nat) (c0 c1 c4 c5 c6 vl : Value) (l : List (Nat × Nat)) (s : Nat × Nat) (h : BldU w base gb gm c0 c1 c4 c5 c6 vl l) (hs : s ∉ l) (hlen : l.length < 60000) (hbase : base ≤ w.heap.size) :
    Calls Try.prog 110 #[.pointer (some ⟨gb, 0, none⟩), encP s] w (Ret fun v w' => v = .int .i64 (l.length : Int) ∧ ∃ vl', BldU w' base gb gm c0 c1 c4 c5 c6 vl' (l ++ [s]) ∧
      Kept w w' (fun k => k = gb ∨ k = gm ∨ vl.ownBlock = some k) ∧ Moved w vl vl') := by
  obtain ⟨w1, hw1, hb1, hB1, hk1⟩ := box_blk w #[.int .i64 (s.1 : Int), .int .i64 (s.2 : Int)] 118
  have hblk1 := h.blk.kept hk1 id
  have hmap1 := h.map.kept hk1 id
  have hrow1 : w1.ownsRow base 118 2 vl l.length (l.flatMap cellsP) := hk1.ownsRow h.row (fun _ _ => id)
  have hc := hblk1.cell
  have hcb := hB1.cell
  have hmapd : IdxMap w1.drew gm (l.map encP) := hmap1
  have hmapd2 : IdxMap w1.drew.drew gm (l.map encP) := hmap1
  have hlk := run_idx_lookup keyP Try.underlying122 zero3 hmapd s
  simp only [hs, if_false, decide_false, encP] at hlk
  obtain ⟨wm, hup, hm1, hm2, -⟩ := run_idx_store keyP Try.underlying122 hmapd2 s hs
  obtain ⟨A, c, rfl⟩ := slice_of_own h.row
  simp only [encP] at hup
  have hd2 : Kept w1 w1.drew.drew (fun _ => False) := ((Kept.refl w1 _).drew).drew
  have hnb : (Value.slice A l.length c).ownBlock ≠ some w.heap.size := fun e => by have := own_lt h.row e; omega
  have hrow : wm.ownsRow base 118 2 (.slice A l.length c) l.length (l.flatMap cellsP) := (hd2.ownsRow hrow1 (fun _ _ => id)).kept hm2 (.inr fun e => own_map_ne hrow1 hmap1 e)
  have hblk : Blk wm gb 125 #[c0, c1, .map (some gm), .slice A l.length c, c4, c5, c6] := (hblk1.kept hd2 id).kept (Kept.of_grown hm2) (fun e => blk_map_ne hblk1 hmap1 (Option.some.inj e).symm)
  have hbox : Blk wm w.heap.size 118 #[.int .i64 (s.1 : Int), .int .i64 (s.2 : Int)] := (hB1.kept hd2 id).kept (Kept.of_grown hm2) (fun e => blk_map_ne hB1 hmap1 (Option.some.inj e).symm)
  have hc2 := hblk.cell
  have hcb2 := hbox.cell
  have hsz := hblk.lt
  have hgmne : gm ≠ gb := fun e => blk_map_ne h.blk h.map e.symm
  have hk01 : Kept w w1 (fun k => some gm = some k) := hk1.mono fun _ _ h => h.elim
  have hk02 : Kept w1 w1.drew.drew (fun k => some gm = some k) := hd2.mono fun _ _ h => h.elim
  have hk0 : Kept w wm (fun k => k = gb ∨ k = gm ∨ (Value.slice A l.length c).ownBlock = some k) := (((hk01.trans hk02 (fun _ _ h => h)).trans (Kept.of_grown hm2) (fun _ _ h => h))).mono (fun b _ hb => .inr (.inl (Option.some.inj hb).symm))
  have hms2 := hk0.size
  clear hmapd hmapd2 hmap1 hrow1
  unfold encP
  go_enter Try.func110, Try.ntmps110
  go_wp2_with fail
  refine Reg.region_plain [0, 1, 3, 7, 0, 31, 63, 127, 127, 255, 1023] (by kernel_rfl) (by repeat (first | exact Reg.NoQ.body (fun _ _ h => h) (fun _ h => h) | refine Reg.NoQ.then ?_ | refine Reg.NoQ.inBlock ?_)) ?_
  go_wp2_with fail
  refine Reg.region_plain [0, 1, 3, 7, 0, 0, 63] (by kernel_rfl) (by repeat (first | exact Reg.NoQ.body (fun _ _ h => h) (fun _ h => h) | refine Reg.NoQ.then ?_ | refine Reg.NoQ.inBlock ?_)) ?_
  go_wp2_with fail
  refine Reg.region_plain [0, 0, 2, 6, 14, 0, 32, 126, 255, 511, 1023] (by kernel_rfl) (by repeat (first | exact Reg.NoQ.body (fun _ _ h => h) (fun _ h => h) | refine Reg.NoQ.then ?_ | refine Reg.NoQ.inBlock ?_)) ?_
  have hrowd : wm.drew.ownsRow base 118 2 (.slice A l.length c) l.length (l.flatMap cellsP) := ((Kept.refl wm (fun _ => False)).drew).ownsRow hrow (fun _ _ => id)
  have hblkd : Blk wm.drew gb 125 #[c0, c1, .map (some gm), .slice A l.length c, c4, c5, c6] := hblk
  have hbd : base ≤ wm.drew.heap.size := Nat.le_trans hbase hms2
  go_wp2_with (at_builtin; refine wpList_app_new (w := wm.drew) row123 rfl _ _ rfl base (.slice A l.length c) l.length _ rfl hrowd (cellsP s) 1 rfl rfl (by simp [cellsP, Value.oneCell']) (by omega) hbd ?_; intro g cap w5 hown hk5 hmv hg; have hblk5 := hblkd.kept hk5 (fun e => own_blk_ne hrowd hblkd (by decide) e); have hc5 := hblk5.cell; have hf5 := hblk5.frozen)
  go_ret
  have hm1d : IdxMap wm.drew gm ((l ++ [s]).map encP) := hm1
  have hmvw : Moved wm (.slice A l.length c) (.slice (some ⟨g, 0, none⟩) (l.length + 1) cap) := hmv
  have hk5w : Kept wm w5 (fun k => (Value.slice A l.length c).ownBlock = some k) := ⟨hk5.os, hk5.tape, hk5.output, hk5.size, hk5.block⟩
  have hkA : Kept wm (w5.setCell ⟨gb, 3, none⟩ (.slice (some ⟨g, 0, none⟩) (l.length + 1) cap)) (fun k => k = gb ∨ (Value.slice A l.length c).ownBlock = some k) := (hk5w.mono (fun _ _ h => .inr h)).setCell (fun _ => .inl rfl) _
  have hkB := (Kept.refl w5 (fun k => k = gb)).setCell (p := ⟨gb, 3, none⟩) (fun _ => rfl) (.slice (some ⟨g, 0, none⟩) (l.length + 1) cap)
  refine ⟨rfl, .slice (some ⟨g, 0, none⟩) (l.length + 1) cap, ⟨hblk5.set_ 3 _, hm1.kept hkA (fun h => h.elim hgmne (own_map_ne hrow hm1)), ?_⟩, ?_, (Moved.refl w _).trans hms2 hmvw⟩
  · have := hkB.ownsRow hown (fun g' hg' e => own_blk_ne hown hblk5 (by decide) (by rw [← e]; exact hg'))
    simpa [cellsP] using this
  · refine hk0.trans hkA ?_
    rintro b _ (hb | hb)
    · exact .inl hb
    · exact .inr (.inr hb)

theorem meetU (w : World) (base gb gm : Nat) (c0 c1 c4 c5 c6 vl : Value) (l : List (Nat × Nat)) (s : Nat × Nat) (h : BldU w base gb gm c0 c1 c4 c5 c6 vl l) (hlen : l.length < 60000) (hbase : base ≤ w.heap.size) :
    Calls Try.prog 110 #[.pointer (some ⟨gb, 0, none⟩), encP s] w (Ret fun v w' => v = .int .i64 (numL (meetL l s) s : Int) ∧ ∃ vl', BldU w' base gb gm c0 c1 c4 c5 c6 vl' (meetL l s) ∧
      Kept w w' (fun k => k = gb ∨ k = gm ∨ vl.ownBlock = some k) ∧ Moved w vl vl') := by
  by_cases hs : s ∈ l
  · refine Calls.ret (meetU_old w base gb gm c0 c1 c4 c5 c6 vl l s h hs) fun v w' ⟨hv, hb⟩ => ?_
    have hk := Kept.of_below hb (fun _ => False)
    have e : meetL l s = l := by unfold meetL; rw [if_pos hs]
    simp only [Ret, e]
    exact ⟨hv, vl, ⟨h.blk.kept hk id, h.map.kept hk id, hk.ownsRow h.row (fun _ _ => id)⟩, Kept.of_below hb _, Moved.refl _ _⟩
  · refine (Calls.ret (meetU_new w base gb gm c0 c1 c4 c5 c6 vl l s h hs hlen hbase) fun v w' hv => ?_)
    have e : meetL l s = l ++ [s] := by unfold meetL; rw [if_neg hs]
    have e2 : numL (l ++ [s]) s = l.length := by rw [← e]; exact numL_new hs
    simp only [Ret, e, e2]
    exact hv
end PB
end Go.Proofs.Ytnimlcbgeiajiaa

namespace Go.Proofs.Ytnimlcbgeiajiaa
open Go.RowKit

/-- A pair of a row. -/
theorem flatP (l : List (Nat × Nat)) : ∀ (k j : Nat) (s : Nat × Nat), l[k]? = some s → j < 2 → (l.flatMap cellsP)[k * 2 + j]? = (cellsP s)[j]? := by
  induction l with
  | nil => intro k j s h; simp at h
  | cons t l ih =>
    intro k j s h hj
    rw [List.flatMap_cons]
    cases k with
    | zero =>
      simp at h
      subst h
      rw [Nat.zero_mul, Nat.zero_add, List.getElem?_append_left (by simpa [cellsP] using hj)]
    | succ k =>
      rw [List.getElem?_append_right (by simp [cellsP]; omega)]
      have : (k + 1) * 2 + j - (cellsP t).length = k * 2 + j := by simp [cellsP]; omega
      rw [this]
      exact ih k j s (by simpa using h) hj
theorem lenP (l : List (Nat × Nat)) : (l.flatMap cellsP).length = l.length * 2 := by
  induction l with
  | nil => rfl
  | cons t l ih => rw [List.flatMap_cons, List.length_append, ih]; simp [cellsP]; omega
theorem own_getP {w : World} {base n : Nat} {e : TypeId} {v : Value} {l : List (Nat × Nat)} (h : w.ownsRow base e 2 v n (l.flatMap cellsP)) {k : Nat} {s : Nat × Nat} (hk : l[k]? = some s) :
    ∃ g cap, v = .slice (some ⟨g, 0, none⟩) n cap ∧ w.cell? ⟨g, k * 2, none⟩ = some (.int .i64 (s.1 : Int)) ∧ w.cell? ⟨g, k * 2 + 1, none⟩ = some (.int .i64 (s.2 : Int)) := by
  obtain ⟨hl, hx⟩ := h
  have hkl := lt_of_get hk
  rw [lenP] at hl
  rcases hx with ⟨_, h0⟩ | ⟨g, cap, cur, rfl, hb, hh, hc, hm, hs, ht⟩
  · omega
  · have get : ∀ j, j < 2 → w.cell? ⟨g, k * 2 + j, none⟩ = (cellsP s)[j]? := fun j hj => by
      rw [cell_of_row w g (k * 2 + j) cur e (0, 0) hh, ← flatP l k j s hk hj, ← ht, List.getElem?_take]
      simp; omega
    exact ⟨g, cap, rfl, get 0 (by omega), get 1 (by omega)⟩

namespace PB
/-- What build's closures answer, over the pairs that hold P. -/
structure ClosU (wb : World) (gb L : Nat) (cap4 cap5 cap6 : Value) (leaf : Nat → Nat × Nat) (br : Nat → Nat × Nat → Nat × Nat → Nat × Nat) (acc : Nat × Nat → Bool) (P : Nat × Nat → Prop) : Prop where
  fl : ∀ w', Kept wb w' (fun k => k = gb) → ∀ x : Nat, x < L → Calls Try.prog 89 #[.int .i64 x, cap4, cap5] w' (Ret fun v w'' => v = encP (leaf x) ∧ Below w'.heap.size w' w'')
  fb : ∀ w', Kept wb w' (fun k => k = gb) → ∀ (x : Nat) (s t : Nat × Nat), x < L → P s → P t → Calls Try.prog 90 #[.int .i64 x, encP s, encP t, cap4, cap5] w' (Ret fun v w'' => v = encP (br x s t) ∧ Below w'.heap.size w' w'')
  fa : ∀ w', Kept wb w' (fun k => k = gb) → ∀ s : Nat × Nat, P s → Calls Try.prog 91 #[encP s, cap6, cap4, cap5] w' (Ret fun v w'' => v = .bool (acc s) ∧ Below w'.heap.size w' w'')
  pleaf : ∀ x, x < L → P (leaf x)
  pbr : ∀ x s t, x < L → P s → P t → P (br x s t)
  plen : ∀ l : List (Nat × Nat), l.Nodup → (∀ s ∈ l, P s) → l.length ≤ 4096

theorem BldU.below {w w' : World} {base gb gm : Nat} {c0 c1 c4 c5 c6 vl : Value} {l : List (Nat × Nat)} (h : BldU w base gb gm c0 c1 c4 c5 c6 vl l) (hb : Below w.heap.size w w') : BldU w' base gb gm c0 c1 c4 c5 c6 vl l :=
  ⟨h.blk.kept (Kept.of_below hb fun _ => False) id, h.map.kept (Kept.of_below hb fun _ => False) id, (Kept.of_below hb fun _ => False).ownsRow h.row fun _ _ => id⟩

theorem BldU.tops {w w0 : World} {gb gm gr : Nat} {c0 c1 c4 c5 c6 vl : Value} {l : List (Nat × Nat)} (h : BldU w w0.heap.size gb gm c0 c1 c4 c5 c6 vl l) (hgm : w0.heap.size ≤ gm) (hgr : w0.heap.size ≤ gr) :
    ∀ b, b < w0.heap.size → (b = gb ∨ b = gm ∨ b = gr ∨ vl.ownBlock = some b) → b = gb := by
  rintro b hb (h1 | h1 | h1 | h1)
  · exact h1
  · omega
  · omega
  · have := own_base h.row h1; omega
theorem BldU.not {w : World} {base gb gm gr : Nat} {c0 c1 c4 c5 c6 vl : Value} {l : List (Nat × Nat)} {t : TypeId} {cs : Array Value} (h : BldU w base gb gm c0 c1 c4 c5 c6 vl l) (hr : Blk w gr t cs) (h1 : t ≠ 125) (h2 : 118 ≠ t) : ¬ (gr = gb ∨ gr = gm ∨ vl.ownBlock = some gr) := by
  rintro (e | e | e)
  · exact hr.ne_ h.blk h1 e
  · exact blk_map_ne hr h.map e
  · exact own_blk_ne h.row hr h2 e
theorem BldU.setCell {w : World} {base gb gm gr k : Nat} {c0 c1 c4 c5 c6 vl : Value} {l : List (Nat × Nat)} (h : BldU w base gb gm c0 c1 c4 c5 c6 vl l) (hn : ¬ (gr = gb ∨ gr = gm ∨ vl.ownBlock = some gr)) (u : Value) : BldU (w.setCell ⟨gr, k, none⟩ u) base gb gm c0 c1 c4 c5 c6 vl l := by
  have hk := (Kept.refl w (fun b => b = gr)).setCell (p := ⟨gr, k, none⟩) (fun _ => rfl) u
  exact ⟨h.blk.kept hk fun e => hn (.inl e.symm), h.map.kept hk fun e => hn (.inr (.inl e.symm)), hk.ownsRow h.row fun g hg e => hn (.inr (.inr (by rw [← e]; exact hg)))⟩
set_option maxHeartbeats 4000000 in
set_option maxRecDepth 100000 in
theorem bld_fill {wb : World} {gb gm gr L i j : Nat} {c1 c4 c6 cap4 cap5 cap6 : Value} {leaf : Nat → Nat × Nat} {br : Nat → Nat × Nat → Nat × Nat → Nat × Nat} {acc : Nat × Nat → Bool} {P : Nat × Nat → Prop} (hC : ClosU wb gb L cap4 cap5 cap6 leaf br acc P)
    {l0 : List (Nat × Nat)} (hL : L ≤ 8) {s t : Nat × Nat} (hs : l0[i]? = some s) (ht : l0[j]? = some t)
    {w : World} (hK : Kept wb w (fun k => k = gb)) {vl : Value} {l : List (Nat × Nat)} (hB : BldU w wb.heap.size gb gm (.int .i64 L) c1 c4 (.func (.func 90) #[] #[cap4, cap5]) c6 vl l) (hM : Mid L br l0 l) (hP : ∀ s ∈ l, P s)
    (hR : Blk w gr 3 (fillC L [])) (hgr : wb.heap.size ≤ gr) (hgm : wb.heap.size ≤ gm)
    {u1 u2 u3 u4 u5 u6 u7 u8 u12 u13 u14 u15 u16 u17 u18 u19 u20 u21 u22 u23 u24 u25 u26 u27 u28 u29 u30 u31 u32 u33 u34 u35 u36 u37 u38 u39 u40 u41 u42 u43 u44 u45 u46 u47 u48 u49 u50 u51 u52 u53 u54 u55 u56 u57 u58 u59 u60 u61 u62 u63 u64 u65 u66 u67 u68 u69 u70 u71 u72 u73 u74 u75 u76 u77 u78 u79 u80 u81 u82 u83 u84 u85 u86 u87 u88 u89 u90 u91 u92 u93 u94 u95 u96 u97 u98 u99 u100 u101 u102 u103 u104 u105 u106 u107 u108 u109 u110 u111 u112 u113 u114 u115 u116 u117 u118 u119 u120 u123 u124 u125 u126 u127 u128 u129 u130 u131 u132 u133 u134 u135 u136 u137 u138 u139 u140 u141 u142 u143 u144 u145 u146 u147 u148 u149 u150 u151 u152 u153 u154 u155 u156 u157 u158 u159 u160 u161 u162 u163 u164 u165 u166 u167 u168 u169 u170 u171 u172 u173 u174 u175 u176 u177 u178 u179 u180 u181 u182 u183 u184 u185 u186 u187 u188 u189 u190 u191 u192 u193 u194 u195 u196 : Value}
    {Q : Exit → Act → World → Prop} (hN : Reg.NoQ Q)
    (hQ : ∀ (x12 x122 x123 x124 x125 x126 x127 x128 x129 x130 x131 x132 x133 x134 x135 x136 x137 x138 x139 x140 x141 x142 x143 x144 x145 x146 x147 x148 x149 x150 : Value) (w' : World) (vl' : Value) (l' : List (Nat × Nat)) (row : List Nat), BldU w' wb.heap.size gb gm (.int .i64 L) c1 c4 (.func (.func 90) #[] #[cap4, cap5]) c6 vl' l' → Mid L br l0 l' → l <+: l' → (∀ s ∈ l', P s) → row.length = L → RowOK br l' i j row →
      Blk w' gr 3 (fillC L row) → Kept w w' (fun k => k = gb ∨ k = gm ∨ k = gr ∨ vl.ownBlock = some k) → Moved w vl vl' →
      Q (.exit 8) ⟨List.toArray ((.pointer (some ⟨gb, 0, none⟩)) :: u1 :: u2 :: u3 :: u4 :: u5 :: u6 :: u7 :: u8 :: (.int .i64 i) :: (.int .i64 j) :: (.slice (some ⟨gr, 0, none⟩) L L) :: x12 :: u13 :: u14 :: u15 :: u16 :: u17 :: u18 :: u19 :: u20 :: u21 :: u22 :: u23 :: u24 :: u25 :: u26 :: 
      u27 :: u28 :: u29 :: u30 :: u31 :: u32 :: u33 :: u34 :: u35 :: u36 :: u37 :: u38 :: u39 :: u40 :: u41 :: u42 :: u43 :: u44 :: u45 :: u46 :: u47 :: u48 :: u49 :: u50 :: u51 :: u52 :: u53 :: u54 :: u55 :: u56 :: u57 :: u58 :: u59 :: u60 :: u61 :: u62 :: u63 :: 
      u64 :: u65 :: u66 :: u67 :: u68 :: u69 :: u70 :: u71 :: u72 :: u73 :: u74 :: u75 :: u76 :: u77 :: u78 :: u79 :: u80 :: u81 :: u82 :: u83 :: u84 :: u85 :: u86 :: u87 :: u88 :: u89 :: u90 :: u91 :: u92 :: u93 :: u94 :: u95 :: u96 :: u97 :: u98 :: u99 :: u100 :: 
      u101 :: u102 :: u103 :: u104 :: u105 :: u106 :: u107 :: u108 :: u109 :: u110 :: u111 :: u112 :: u113 :: u114 :: u115 :: u116 :: u117 :: u118 :: u119 :: u120 :: (.int .i64 L) :: x122 :: x123 :: x124 :: x125 :: x126 :: x127 :: x128 :: x129 :: x130 :: x131 :: 
      x132 :: x133 :: x134 :: x135 :: x136 :: x137 :: x138 :: x139 :: x140 :: x141 :: x142 :: x143 :: x144 :: x145 :: x146 :: x147 :: x148 :: x149 :: x150 :: u151 :: u152 :: u153 :: u154 :: u155 :: u156 :: u157 :: u158 :: u159 :: u160 :: u161 :: u162 :: u163 :: u164 :: 
      u165 :: u166 :: u167 :: u168 :: u169 :: u170 :: u171 :: u172 :: u173 :: u174 :: u175 :: u176 :: u177 :: u178 :: u179 :: u180 :: u181 :: u182 :: u183 :: u184 :: u185 :: u186 :: u187 :: u188 :: u189 :: u190 :: u191 :: u192 :: u193 :: u194 :: u195 :: u196 :: []), []⟩ w') :
    (Code.loop (loopBody Try.f92 4)).wp Try.prog Q ⟨List.toArray ((.pointer (some ⟨gb, 0, none⟩)) :: u1 :: u2 :: u3 :: u4 :: u5 :: u6 :: u7 :: u8 :: (.int .i64 i) :: (.int .i64 j) :: (.slice (some ⟨gr, 0, none⟩) L L) :: u12 :: u13 :: u14 :: u15 :: u16 :: u17 :: u18 :: u19 :: u20 :: u21 :: u22 :: u23 :: u24 :: u25 :: u26 :: 
      u27 :: u28 :: u29 :: u30 :: u31 :: u32 :: u33 :: u34 :: u35 :: u36 :: u37 :: u38 :: u39 :: u40 :: u41 :: u42 :: u43 :: u44 :: u45 :: u46 :: u47 :: u48 :: u49 :: u50 :: u51 :: u52 :: u53 :: u54 :: u55 :: u56 :: u57 :: u58 :: u59 :: u60 :: u61 :: u62 :: u63 :: 
      u64 :: u65 :: u66 :: u67 :: u68 :: u69 :: u70 :: u71 :: u72 :: u73 :: u74 :: u75 :: u76 :: u77 :: u78 :: u79 :: u80 :: u81 :: u82 :: u83 :: u84 :: u85 :: u86 :: u87 :: u88 :: u89 :: u90 :: u91 :: u92 :: u93 :: u94 :: u95 :: u96 :: u97 :: u98 :: u99 :: u100 :: 
      u101 :: u102 :: u103 :: u104 :: u105 :: u106 :: u107 :: u108 :: u109 :: u110 :: u111 :: u112 :: u113 :: u114 :: u115 :: u116 :: u117 :: u118 :: u119 :: u120 :: (.int .i64 L) :: (.int .i64 0) :: u123 :: u124 :: u125 :: u126 :: u127 :: u128 :: u129 :: u130 :: 
      u131 :: u132 :: u133 :: u134 :: u135 :: u136 :: u137 :: u138 :: u139 :: u140 :: u141 :: u142 :: u143 :: u144 :: u145 :: u146 :: u147 :: u148 :: u149 :: u150 :: u151 :: u152 :: u153 :: u154 :: u155 :: u156 :: u157 :: u158 :: u159 :: u160 :: u161 :: u162 :: u163 :: 
      u164 :: u165 :: u166 :: u167 :: u168 :: u169 :: u170 :: u171 :: u172 :: u173 :: u174 :: u175 :: u176 :: u177 :: u178 :: u179 :: u180 :: u181 :: u182 :: u183 :: u184 :: u185 :: u186 :: u187 :: u188 :: u189 :: u190 :: u191 :: u192 :: u193 :: u194 :: u195 :: u196 :: 
      []), []⟩ w := by
  conv => arg 2; arg 1; whnf
  go_loopw [122] (fun ii wr => ∃ (row : List Nat) (l' : List (Nat × Nat)) (vl' : Value), ii = .int .i64 (row.length : Int) ∧ row.length ≤ L ∧ BldU wr wb.heap.size gb gm (.int .i64 L) c1 c4 (.func (.func 90) #[] #[cap4, cap5]) c6 vl' l' ∧ Mid L br l0 l' ∧ l <+: l' ∧ (∀ s ∈ l', P s) ∧ RowOK br l' i j row ∧
    Blk wr gr 3 (fillC L row) ∧ Kept w wr (fun k => k = gb ∨ k = gm ∨ k = gr ∨ vl.ownBlock = some k) ∧ Moved w vl vl') (fun ii _ => L - (intOf ii).toNat)
  case atStart => exact ⟨[], l, vl, rfl, Nat.zero_le _, hB, hM, List.prefix_refl _, hP, RowOK.nil, hR, Kept.refl _ _, Moved.refl _ _⟩
  case round =>
    obtain ⟨row, l', vl', rfl, hlen, hB', hM', hpre, hP', hrow, hR', hK', hmv⟩ := hrel
    have hKr := hK.trans hK' (hB.tops hgm hgr)
    have hi := prefix_get hM'.pre hs
    have hj := prefix_get hM'.pre ht
    have hPs := hP' s (List.mem_of_getElem? hi)
    have hPt := hP' t (List.mem_of_getElem? hj)
    have hll := hC.plen l' hM'.nodup hP'
    have hil := lt_of_get hi
    have hjl := lt_of_get hj
    obtain ⟨g, cap, hvl, hgi, hgi2⟩ := own_getP hB'.row hi
    obtain ⟨g', cap', hvl', hgj, hgj2⟩ := own_getP hB'.row hj
    rw [hvl] at hvl'
    injection hvl' with e1 e2 e3
    injection e1 with e1
    injection e1 with e1
    subst e1 e3
    subst hvl
    have hcb := hB'.blk.cell
    have hM2 := hide hM'
    have hPP := hide hP'
    have hpp := hide hpre
    have hrr := hide hrow
    have hHi := hide hi
    have hHj := hide hj
    have hHs := hide hs
    have hHt := hide ht
    clear hM' hP' hpre hrow hi hj hs ht hM hP
    go_wp2_with fail
    · refine Reg.region_plain [0, 0, 0, 0, 8, 24, 56, 0, 0, 256, 768, 1792, 0, 7936, 16128, 0, 32768, 98304, 229376, 0, 1015808, 2064384, 4194296, 8388604, 16777215, 33554431] (by kernel_rfl) (by repeat (first | exact hN | refine Reg.NoQ.then ?_ | refine Reg.NoQ.inBlock ?_)) ?_
      go_wp2_with (first | (go_at_call 90; refine Calls.ret (hC.fb _ hKr.drew row.length s t (by omega) hPs hPt) ?_; rintro v w1 ⟨rfl, hb0⟩; have hb1 : Below wr.heap.size wr w1 := ⟨hb0.os, hb0.tape, hb0.output, hb0.size, hb0.block⟩; clear hb0; have hB1 := hB'.below hb1; have hR1 := hR'.kept (Kept.of_below hb1 fun _ => False) id; have hsz1 := hb1.size) | (go_at_call 110; refine Calls.ret (meetU w1 wb.heap.size gb gm _ c1 c4 _ c6 _ l' (br row.length s t) hB1 (by omega) (Nat.le_trans hKr.size hsz1)) ?_; rintro v w2 ⟨rfl, vl2, hB2, hk2, hmv2⟩; have hR2 := hR1.kept hk2 (hB1.not hR1 (by decide) (by decide)); have hcR := (hR2.cell row.length).trans (fillC_get (by omega)); have hfR := hR2.frozen))
      refine ⟨⟨row ++ [numL (meetL l' (br row.length s t)) (br row.length s t)], _, vl2, by simp, by simp; omega, hB2.setCell (hB2.not hR2 (by decide) (by decide)) _, ?_, hpp.out.trans (prefix_meetL _ _), ?_, ?_, ?_, ?_, (hmv.trans hK'.size (hmv2.of_le hsz1))⟩, by simp [intOf]; omega⟩
      · exact hM2.out.meet (by omega) (List.mem_of_getElem? hHs.out) (List.mem_of_getElem? hHt.out)
      · intro u hu
        rcases mem_meetL.1 hu with hu | rfl
        · exact hPP.out u hu
        · exact hC.pbr _ _ _ (by omega) hPs hPt
      · exact (hrr.out.grow (prefix_meetL _ _)).snoc (prefix_get (prefix_meetL _ _) hHi.out) (prefix_get (prefix_meetL _ _) hHj.out) (get_numL _ _)
      · rw [← fillC_set (by omega)]
        exact hR2.set_ _ _
      · refine Kept.setCell ((hK'.trans (Kept.of_below hb1 fun _ => False) fun _ _ h => h.elim).trans hk2 ?_) (fun _ => .inr (.inr (.inl rfl))) _
        rintro b hb (h1 | h1 | h1)
        · exact .inl h1
        · exact .inr (.inl h1)
        · refine .inr (.inr (.inr ?_))
          rcases hmv with hm | ⟨g1, hm, hg1⟩
          · rw [← hm]; exact h1
          · rw [hm] at h1
            injection h1 with h1
            omega
    · exact hQ _ _ _ _ _ _ _ _ _ _ _ _ _ _ _ _ _ _ _ _ _ _ _ _ _ _ _ _ _ _ wr _ l' row hB' hM2.out hpp.out hPP.out (by omega) hrr.out hR' hK' hmv
end PB
end Go.Proofs.Ytnimlcbgeiajiaa

namespace Go.Proofs.Ytnimlcbgeiajiaa
open Go.RowKit
namespace PB

/-- The memory of a build: the builder, its closures, the machine that grows. -/
structure BWU (wb w : World) (gb gm gM L : Nat) (c1 cap4 cap5 cap6 vl vleaf vbr : Value) (l : List (Nat × Nat)) (lf : List Nat) (t : List (List (List Nat))) : Prop where
  kept : Kept wb w (fun k => k = gb)
  bld : BldU w wb.heap.size gb gm (.int .i64 L) c1 (.func (.func 89) #[] #[cap4, cap5]) (.func (.func 90) #[] #[cap4, cap5]) (.func (.func 91) #[] #[cap6, cap4, cap5]) vl l
  mach : Blk w gM 82 #[.int .i64 L, .slice none 0 0, vleaf, vbr]
  lfs : IntRow w wb.heap.size vleaf lf
  tab : Tab w wb.heap.size vbr t
  gm_ : wb.heap.size ≤ gm
  gM_ : wb.heap.size ≤ gM

section
variable {wb w w' : World} {gb gm gM L : Nat} {c1 cap4 cap5 cap6 vl vl' vleaf vbr : Value} {l l' : List (Nat × Nat)} {lf : List Nat} {t : List (List (List Nat))}
/-- Another list, the same machine. -/
theorem BWU.list (h : BWU wb w gb gm gM L c1 cap4 cap5 cap6 vl vleaf vbr l lf t) (hk : Kept w w' (fun k => k = gb ∨ k = gm ∨ vl.ownBlock = some k))
    (hb : BldU w' wb.heap.size gb gm (.int .i64 L) c1 (.func (.func 89) #[] #[cap4, cap5]) (.func (.func 90) #[] #[cap4, cap5]) (.func (.func 91) #[] #[cap6, cap4, cap5]) vl' l') : BWU wb w' gb gm gM L c1 cap4 cap5 cap6 vl' vleaf vbr l' lf t := by
  have h3 : ∀ (e : TypeId), e ≠ 125 → 118 ≠ e → ∀ g cs, (g = gb ∨ g = gm ∨ vl.ownBlock = some g) → ¬ Blk w g e cs := fun e h1 h2 g cs hx hb => h.bld.not hb h1 h2 hx
  obtain ⟨us, ht⟩ := h.tab.open
  refine ⟨h.kept.trans hk (fun b hb hx => ?_), hb, h.mach.kept hk (h.bld.not h.mach (by decide) (by decide)), own_ty hk h.lfs (h3 3 (by decide) (by decide)),
    (ht.keep hk (h3 3 (by decide) (by decide)) (h3 22 (by decide) (by decide)) fun g hg hx => ?_).close, h.gm_, h.gM_⟩
  · rcases hx with hx | hx | hx
    · exact hx
    · have := h.gm_; omega
    · have := own_base h.bld.row hx; omega
  · rcases ht.own.2 with ⟨rfl, _⟩ | ⟨g', cap, cur, rfl, _, hh, _⟩
    · simp [Value.ownBlock] at hg
    · have : g' = g := by simpa [Value.ownBlock] using hg
      subst this
      exact h3 104 (by decide) (by decide) _ cur hx hh
theorem BWU.below (h : BWU wb w gb gm gM L c1 cap4 cap5 cap6 vl vleaf vbr l lf t) (hb : Below w.heap.size w w') : BWU wb w' gb gm gM L c1 cap4 cap5 cap6 vl vleaf vbr l lf t :=
  h.list (Kept.of_below hb _) (h.bld.below hb)
end

theorem BldU.other {w w' : World} {X : Nat → Prop} {base gb gm : Nat} {c0 c1 c4 c5 c6 vl : Value} {l : List (Nat × Nat)} (h : BldU w base gb gm c0 c1 c4 c5 c6 vl l) (hk : Kept w w' X) (hX : ∀ k, X k → ∃ t cs, Blk w k t cs ∧ t ≠ 125 ∧ 118 ≠ t) : BldU w' base gb gm c0 c1 c4 c5 c6 vl l := by
  have hn : ∀ k, X k → ¬ (k = gb ∨ k = gm ∨ vl.ownBlock = some k) := fun k hx => by
    obtain ⟨t, cs, hb, h1, h2⟩ := hX k hx
    exact h.not hb h1 h2
  exact ⟨h.blk.kept hk fun hx => hn _ hx (.inl rfl), h.map.kept hk fun hx => hn _ hx (.inr (.inl rfl)), hk.ownsRow h.row fun g hg hx => hn _ hx (.inr (.inr hg))⟩
/-- The machine's table changes. -/
theorem BWU.table {wb w w' : World} {X : Nat → Prop} {gb gm gM L : Nat} {c1 cap4 cap5 cap6 vl vleaf vbr vbr' : Value} {l : List (Nat × Nat)} {lf : List Nat} {t t' : List (List (List Nat))} (h : BWU wb w gb gm gM L c1 cap4 cap5 cap6 vl vleaf vbr l lf t) (hk : Kept w w' X)
    (hX : ∀ k, X k → wb.heap.size ≤ k ∧ ∃ t cs, Blk w k t cs ∧ t ≠ 125 ∧ 118 ≠ t ∧ t ≠ 3) (hm : Blk w' gM 82 #[.int .i64 L, .slice none 0 0, vleaf, vbr']) (ht : Tab w' wb.heap.size vbr' t') : BWU wb w' gb gm gM L c1 cap4 cap5 cap6 vl vleaf vbr' l lf t' :=
  ⟨h.kept.trans hk fun b hb hx => by have := (hX b hx).1; omega,
    h.bld.other hk fun k hx => by
      obtain ⟨_, t, cs, hb, h1, h2, _⟩ := hX k hx
      exact ⟨t, cs, hb, h1, h2⟩,
    hm, own_ty hk h.lfs fun g cs hx hb => by
      obtain ⟨_, t, cs', hb', _, _, h3⟩ := hX g hx
      exact hb'.ne_ hb h3 rfl, ht, h.gm_, h.gM_⟩
set_option maxHeartbeats 4000000 in
set_option maxRecDepth 100000 in
theorem bld_rows {wb : World} {gb gm gM L i j0 : Nat} {c1 cap4 cap5 cap6 : Value} {leaf : Nat → Nat × Nat} {br : Nat → Nat × Nat → Nat × Nat → Nat × Nat} {acc : Nat × Nat → Bool} {P : Nat × Nat → Prop} (hC : ClosU wb gb L cap4 cap5 cap6 leaf br acc P)
    {l0 : List (Nat × Nat)} (hl0 : l0.length ≤ 4096) (hL : L ≤ 8) (hi : i < l0.length) (hj0 : j0 ≤ l0.length)
    {w : World} {vl vleaf vbr : Value} {l : List (Nat × Nat)} {lf : List Nat} {t : List (List (List Nat))} (hB : BWU wb w gb gm gM L c1 cap4 cap5 cap6 vl vleaf vbr l lf t) (hM : Mid L br l0 l) (hP : ∀ s ∈ l, P s)
    {cnt : Nat → Nat} (hc : cnt i = j0) (hit : i < t.length) (hT : TabOK L br l cnt t)
    {u1 u2 u4 u5 u6 u7 u11 u12 u13 u14 u15 u16 u17 u18 u19 u20 u21 u22 u23 u24 u25 u26 u27 u28 u29 u30 u31 u32 u33 u34 u35 u36 u37 u38 u39 u40 u41 u42 u43 u44 u45 u46 u47 u48 u49 u50 u51 u52 u53 u54 u55 u56 u57 u58 u59 u60 u61 u62 u63 u64 u65 u66 u67 u68 u69 u70 u71 u72 u73 u74 u75 u76 u77 u78 u79 u80 u81 u82 u83 u84 u85 u86 u87 u88 u89 u90 u91 u92 u93 u94 u95 u96 u97 u98 u99 u100 u101 u102 u103 u104 u105 u106 u107 u108 u109 u110 u111 u112 u113 u114 u115 u116 u117 u118 u119 u120 u121 u122 u123 u124 u125 u126 u127 u128 u129 u130 u131 u132 u133 u134 u135 u136 u137 u138 u139 u140 u141 u142 u143 u144 u145 u146 u147 u148 u149 u150 u151 u152 u153 u154 u155 u156 u157 u158 u159 u160 u161 u162 u163 u164 u165 u166 u167 u168 u169 u170 u171 u172 u173 u174 u175 u176 u177 u178 u179 u180 u181 u182 u183 u184 u185 u186 u187 u188 u189 u190 u191 u192 u193 u194 u195 u196 : Value}
    {Q : Exit → Act → World → Prop} (hN : Reg.NoQ Q)
    (hQ : ∀ (x10 x11 x12 x110 x111 x112 x113 x114 x115 x116 x117 x118 x119 x120 x121 x122 x123 x124 x125 x126 x127 x128 x129 x130 x131 x132 x133 x134 x135 x136 x137 x138 x139 x140 x141 x142 x143 x144 x145 x146 x147 x148 x149 x150 x151 x152 x153 x154 x155 x156 x157 x158 x159 x160 x161 x162 x163 x164 x165 x166 : Value) (w' : World) (vl' : Value) (l' : List (Nat × Nat)) (t' : List (List (List Nat))), BWU wb w' gb gm gM L c1 cap4 cap5 cap6 vl' vleaf vbr l' lf t' → Mid L br l0 l' → l <+: l' → (∀ s ∈ l', P s) →
      TabOK L br l' (upd cnt i l0.length) t' → t'.length = t.length →
      Q (.exit 6) ⟨List.toArray ((.pointer (some ⟨gb, 0, none⟩)) :: u1 :: u2 :: (.pointer (some ⟨gM, 0, none⟩)) :: u4 :: u5 :: u6 :: u7 :: (.int .i64 l0.length) :: (.int .i64 i) :: x10 :: x11 :: x12 :: u13 :: u14 :: u15 :: u16 :: u17 :: u18 :: u19 :: u20 :: u21 :: u22 :: u23 :: u24 :: u25 :: 
      u26 :: u27 :: u28 :: u29 :: u30 :: u31 :: u32 :: u33 :: u34 :: u35 :: u36 :: u37 :: u38 :: u39 :: u40 :: u41 :: u42 :: u43 :: u44 :: u45 :: u46 :: u47 :: u48 :: u49 :: u50 :: u51 :: u52 :: u53 :: u54 :: u55 :: u56 :: u57 :: u58 :: u59 :: u60 :: u61 :: u62 :: 
      u63 :: u64 :: u65 :: u66 :: u67 :: u68 :: u69 :: u70 :: u71 :: u72 :: u73 :: u74 :: u75 :: u76 :: u77 :: u78 :: u79 :: u80 :: u81 :: u82 :: u83 :: u84 :: u85 :: u86 :: u87 :: u88 :: u89 :: u90 :: u91 :: u92 :: u93 :: u94 :: u95 :: u96 :: u97 :: u98 :: u99 :: 
      u100 :: u101 :: u102 :: u103 :: u104 :: u105 :: u106 :: u107 :: u108 :: u109 :: x110 :: x111 :: x112 :: x113 :: x114 :: x115 :: x116 :: x117 :: x118 :: x119 :: x120 :: x121 :: x122 :: x123 :: x124 :: x125 :: x126 :: x127 :: x128 :: x129 :: x130 :: x131 :: x132 :: 
      x133 :: x134 :: x135 :: x136 :: x137 :: x138 :: x139 :: x140 :: x141 :: x142 :: x143 :: x144 :: x145 :: x146 :: x147 :: x148 :: x149 :: x150 :: x151 :: x152 :: x153 :: x154 :: x155 :: x156 :: x157 :: x158 :: x159 :: x160 :: x161 :: x162 :: x163 :: x164 :: x165 :: 
      x166 :: u167 :: u168 :: u169 :: u170 :: u171 :: u172 :: u173 :: u174 :: u175 :: u176 :: u177 :: u178 :: u179 :: u180 :: u181 :: u182 :: u183 :: u184 :: u185 :: u186 :: u187 :: u188 :: u189 :: u190 :: u191 :: u192 :: u193 :: u194 :: u195 :: u196 :: []), []⟩ w') :
    (Code.loop (loopBody Try.f92 3)).wp Try.prog Q ⟨List.toArray ((.pointer (some ⟨gb, 0, none⟩)) :: u1 :: u2 :: (.pointer (some ⟨gM, 0, none⟩)) :: u4 :: u5 :: u6 :: u7 :: (.int .i64 l0.length) :: (.int .i64 i) :: (.int .i64 j0) :: u11 :: u12 :: u13 :: u14 :: u15 :: u16 :: u17 :: u18 :: u19 :: u20 :: u21 :: u22 :: u23 :: u24 :: 
      u25 :: u26 :: u27 :: u28 :: u29 :: u30 :: u31 :: u32 :: u33 :: u34 :: u35 :: u36 :: u37 :: u38 :: u39 :: u40 :: u41 :: u42 :: u43 :: u44 :: u45 :: u46 :: u47 :: u48 :: u49 :: u50 :: u51 :: u52 :: u53 :: u54 :: u55 :: u56 :: u57 :: u58 :: u59 :: u60 :: u61 :: 
      u62 :: u63 :: u64 :: u65 :: u66 :: u67 :: u68 :: u69 :: u70 :: u71 :: u72 :: u73 :: u74 :: u75 :: u76 :: u77 :: u78 :: u79 :: u80 :: u81 :: u82 :: u83 :: u84 :: u85 :: u86 :: u87 :: u88 :: u89 :: u90 :: u91 :: u92 :: u93 :: u94 :: u95 :: u96 :: u97 :: u98 :: 
      u99 :: u100 :: u101 :: u102 :: u103 :: u104 :: u105 :: u106 :: u107 :: u108 :: u109 :: u110 :: u111 :: u112 :: u113 :: u114 :: u115 :: u116 :: u117 :: u118 :: u119 :: u120 :: u121 :: u122 :: u123 :: u124 :: u125 :: u126 :: u127 :: u128 :: u129 :: u130 :: u131 :: 
      u132 :: u133 :: u134 :: u135 :: u136 :: u137 :: u138 :: u139 :: u140 :: u141 :: u142 :: u143 :: u144 :: u145 :: u146 :: u147 :: u148 :: u149 :: u150 :: u151 :: u152 :: u153 :: u154 :: u155 :: u156 :: u157 :: u158 :: u159 :: u160 :: u161 :: u162 :: u163 :: u164 :: 
      u165 :: u166 :: u167 :: u168 :: u169 :: u170 :: u171 :: u172 :: u173 :: u174 :: u175 :: u176 :: u177 :: u178 :: u179 :: u180 :: u181 :: u182 :: u183 :: u184 :: u185 :: u186 :: u187 :: u188 :: u189 :: u190 :: u191 :: u192 :: u193 :: u194 :: u195 :: u196 :: []), []⟩ w := by
  conv => arg 2; arg 1; whnf
  go_loopw [10] (fun jj wr => ∃ (j : Nat) (l' : List (Nat × Nat)) (vl' : Value) (t' : List (List (List Nat))), jj = .int .i64 (j : Int) ∧ j ≤ l0.length ∧ BWU wb wr gb gm gM L c1 cap4 cap5 cap6 vl' vleaf vbr l' lf t' ∧ Mid L br l0 l' ∧ l <+: l' ∧ (∀ s ∈ l', P s) ∧
    TabOK L br l' (upd cnt i j) t' ∧ t'.length = t.length) (fun jj _ => l0.length - (intOf jj).toNat)
  case atStart =>
    refine ⟨j0, l, vl, t, rfl, hj0, hB, hM, List.prefix_refl _, hP, ?_, rfl⟩
    have e : upd cnt i j0 = cnt := by funext k; unfold upd; split <;> simp_all
    rw [e]; exact hT
  case round =>
    obtain ⟨j, l', vl', t', rfl, hj, hB', hM', hpre, hP', hT', htl⟩ := hrel
    have hcb := hB'.bld.blk.cell
    have hM2 := hide hM'
    have hPP := hide hP'
    have hpp := hide hpre
    have hTT := hide hT'
    have hTL := hide htl
    obtain ⟨gr, w1, hmk, hR, hb1, hgr⟩ := mk_row wr L (by omega)
    rw [← fillC_nil] at hR
    have hwb := hB'.kept.size
    have hK1 := hB'.kept.trans (Kept.of_below hb1 fun k => k = gb) fun _ _ h => h
    have hB1 := hB'.bld.below hb1
    have hHi := hide hi
    clear hM' hP' hpre hM hP hT hT' htl
    go_wp2_with fail
    · refine bld_fill hC hL (List.getElem?_eq_getElem (by omega : i < l0.length)) (List.getElem?_eq_getElem (by omega : j < l0.length)) hK1 hB1 hM2.out hPP.out hR (by omega) hB'.gm_ ?_ ?_
      · repeat (first | exact hN | refine Reg.NoQ.then ?_ | refine Reg.NoQ.inBlock ?_)
      · iterate 30 (intro _)
        intro w2 vl2 l2 row hB2 hM3 hpre2 hP2 hrl hrow hR2 hk2 hmv2
        have hks : Kept wr w2 (fun k => k = gb ∨ k = gm ∨ vl'.ownBlock = some k) := (Kept.of_below hb1 _).trans hk2 (by
          rintro b hb (h1 | h1 | h1 | h1)
          · exact .inl h1
          · exact .inr (.inl h1)
          · omega
          · exact .inr (.inr h1))
        have hB3 := hB'.list hks hB2
        obtain ⟨us, hu⟩ := hB3.tab.open
        have hil : i < t'.length := by rw [hTL.out]; exact hit
        have hul := hu.len
        obtain ⟨r, hri⟩ : ∃ r, t'[i]? = some r := ⟨_, List.getElem?_eq_getElem hil⟩
        obtain ⟨ui, hui⟩ : ∃ ui, us[i]? = some ui := ⟨_, List.getElem?_eq_getElem (by omega)⟩
        obtain ⟨uis, hr1, hr2, hr3⟩ := hu.row i ui r hui hri
        obtain ⟨gv, cap, rfl, hci⟩ := own_get hu.own hui
        obtain ⟨Ai, ci, rfl⟩ := slice_of_own hr2
        have hcm := hB3.mach.cell
        have hMM := hide hM3
        have hPP2 := hide hP2
        have hpp2 := hide hpre2
        have hrr := hide hrow
        have hrl64 : r.length ≤ 4096 := by have := (hTT.out i r hri).1; simp [upd] at this; omega
        have hwb2 := hB3.kept.size
        have hHri := hide hri
        have hHui := hide hui
        have hHrl := hide hrl
        have hHul := hide hul
        have hHr1 := hide hr1
        clear hM3 hP2 hpre2 hrow hri hui hrl hul hr1 hcb hmk
        go_wp2_with fail
        refine Reg.region_cut [0, 1, 3, 7, 0, 0, 32, 96, 224, 0, 992, 2016, 0, 4096, 16352, 32767, 65535] [0, 1, 2, 3, 4, 5, 6, 7, 8, 9, 10, 11, 12, 13, 14, 15, 16] (by kernel_rfl) (by repeat (first | exact hN | refine Reg.NoQ.then ?_ | refine Reg.NoQ.inBlock ?_)) ?_
        refine Reg.rest_walk' [0, 1, 2, 3, 4, 5, 6, 7, 8, 9, 10, 11, 12, 13] [14, 15, 16] rfl (by kernel_rfl) ?_
        intro Qf hQf
        go_wp2_with fail
        rw [List.filterMap_nil]
        go_wp2_with fail
        refine Reg.rest_act' 14 [15, 16] [3] rfl (by kernel_rfl) ?_
        intro Qf hQf
        simp only [List.getElem_toArray, List.getElem_cons_succ, List.getElem_cons_zero]
        refine wpList_app_new (w := w2.drew) row104 rfl _ _ rfl wb.heap.size (.slice Ai r.length ci) r.length uis rfl hr2 [.slice (some ⟨gr, 0, none⟩) L L] 1 rfl rfl (by simp [Value.oneCell']) (by omega) hwb2 ?_
        intro g cap' w3 hown hk3 hmv3 hg3
        have hk4 : Kept w2 w3 (fun k => (Value.slice Ai r.length ci).ownBlock = some k) := ⟨hk3.os, hk3.tape, hk3.output, hk3.size, hk3.block⟩
        clear hk3
        have hu4 : TabU (w3.setCell ⟨gv, i, none⟩ (.slice (some ⟨g, 0, none⟩) (r.length + 1) cap')) wb.heap.size (.slice (some ⟨gv, 0, none⟩) t'.length cap) (us.set i (.slice (some ⟨g, 0, none⟩) (r.length + 1) cap')) (t'.set i (r ++ [row])) :=
          hu.add rfl hHui.out hHri.out hHr1.out hr2 hr3 (fillC_full hR2 hHrl.out (by omega) hL) hk4 hown hmv3
        have hm1 : Blk ((w2.alloc (.cells #[.slice (some ⟨gr, 0, none⟩) L L] 22)).drew) gM 82 _ := hB3.mach.kept ((Kept.refl w2 (fun _ => False)).alloc _).drew id
        have hm3 : Blk w3 gM 82 _ := hB3.mach.kept hk4 (fun e => own_blk_ne hr2 hB3.mach (by decide) e)
        have hv3 := own_ty hk4 hu.own (not_blk hr2 (by decide))
        have hcv := own_cell hv3 hHui.out
        have hfv := own_frozen hv3 i
        refine hQf _ _ ⟨?_, ?_⟩
        · intro z hz q hq
          simp only [List.mem_singleton] at hz
          subst hz
          injection hq with hq
          subst hq
          exact Reg.same_load1 rfl rfl (hm1.cell 3) (hm3.cell 3) Try.underlying80 rfl
        · refine Reg.rest_walk' [15, 16] [] rfl (by kernel_rfl) ?_
          clear hQf
          intro Qf hQf
          go_wp2_with fail
          rw [List.filterMap_nil]
          go_wp2_with fail
          refine Reg.rest_end ?_
          go_wp2_with fail
          have hX : ∀ k, ((Value.slice Ai r.length ci).ownBlock = some k ∨ k = gv) → wb.heap.size ≤ k ∧ ∃ t cs, Blk w2 k t cs ∧ t ≠ 125 ∧ 118 ≠ t ∧ t ≠ 3 := by
            rintro k (hk | rfl)
            · obtain ⟨cs, hb⟩ := own_blk hr2 hk
              exact ⟨own_base hr2 hk, 22, cs, hb, by decide, by decide, by decide⟩
            · obtain ⟨cs, hb⟩ := own_blk hu.own (k := k) rfl
              exact ⟨own_base hu.own (k := k) rfl, 104, cs, hb, by decide, by decide, by decide⟩
          have hk5 : Kept w2 (w3.setCell ⟨gv, i, none⟩ (.slice (some ⟨g, 0, none⟩) (r.length + 1) cap')) (fun k => (Value.slice Ai r.length ci).ownBlock = some k ∨ k = gv) := (hk4.mono fun _ _ h => .inl h).setCell (fun _ => .inr rfl) _
          have hm5 := hm3.kept ((Kept.refl w3 (fun k => k = gv)).setCell (p := ⟨gv, i, none⟩) (fun _ => rfl) (.slice (some ⟨g, 0, none⟩) (r.length + 1) cap')) (fun e => own_blk_ne hv3 hm3 (by decide) (by rw [e]; rfl))
          refine ⟨⟨j + 1, l2, vl2, t'.set i (r ++ [row]), by simp, by omega, hB3.table hk5 hX hm5 hu4.close, hMM.out, hpp.out.trans hpp2.out, hPP2.out, ?_, by simp [hTL.out]⟩, by simp [intOf]; omega⟩
          exact (hTT.out.grow hpp2.out).set hHri.out hHrl.out hrr.out
    · have e : j = l0.length := by omega
      subst e
      exact hQ _ _ _ _ _ _ _ _ _ _ _ _ _ _ _ _ _ _ _ _ _ _ _ _ _ _ _ _ _ _ _ _ _ _ _ _ _ _ _ _ _ _ _ _ _ _ _ _ _ _ _ _ _ _ _ _ _ _ _ _ wr vl' l' t' hB' hM2.out hpp.out hPP.out hTT.out hTL.out
end PB
end Go.Proofs.Ytnimlcbgeiajiaa

namespace Go.Proofs.Ytnimlcbgeiajiaa
open Go.RowKit
namespace PB

set_option maxHeartbeats 4000000 in
set_option maxRecDepth 100000 in
theorem bld_lines {wb : World} {gb gm gM L n0 : Nat} {c1 cap4 cap5 cap6 : Value} {leaf : Nat → Nat × Nat} {br : Nat → Nat × Nat → Nat × Nat → Nat × Nat} {acc : Nat × Nat → Bool} {P : Nat × Nat → Prop} (hC : ClosU wb gb L cap4 cap5 cap6 leaf br acc P)
    {l0 : List (Nat × Nat)} (hl0 : l0.length ≤ 4096) (hL : L ≤ 8) (hn0 : n0 ≤ l0.length)
    {w : World} {vl vleaf vbr : Value} {l : List (Nat × Nat)} {lf : List Nat} {t : List (List (List Nat))} (hB : BWU wb w gb gm gM L c1 cap4 cap5 cap6 vl vleaf vbr l lf t) (hM : Mid L br l0 l) (hP : ∀ s ∈ l, P s)
    (htl : t.length = n0) (hT : TabOK L br l (fun _ => n0) t)
    {u1 u2 u4 u5 u6 u7 u9 u10 u11 u12 u13 u14 u15 u16 u17 u18 u19 u20 u21 u22 u23 u24 u25 u26 u27 u28 u29 u30 u31 u32 u33 u34 u35 u36 u37 u38 u39 u40 u41 u42 u43 u44 u45 u46 u47 u48 u49 u50 u51 u52 u53 u54 u55 u56 u57 u58 u59 u60 u61 u62 u63 u64 u65 u66 u67 u68 u69 u70 u71 u72 u73 u74 u75 u76 u77 u78 u79 u80 u81 u84 u85 u86 u87 u88 u89 u90 u91 u92 u93 u94 u95 u96 u97 u98 u99 u100 u101 u102 u103 u104 u105 u106 u107 u108 u109 u110 u111 u112 u113 u114 u115 u116 u117 u118 u119 u120 u121 u122 u123 u124 u125 u126 u127 u128 u129 u130 u131 u132 u133 u134 u135 u136 u137 u138 u139 u140 u141 u142 u143 u144 u145 u146 u147 u148 u149 u150 u151 u152 u153 u154 u155 u156 u157 u158 u159 u160 u161 u162 u163 u164 u165 u166 u167 u168 u169 u170 u171 u172 u173 u174 u175 u176 u177 u178 u179 u180 u181 u182 u183 u184 u185 u186 u187 u188 u189 u190 u191 u192 u193 u194 u195 u196 : Value}
    {Q : Exit → Act → World → Prop} (hN : Reg.NoQ Q)
    (hQ : ∀ (x9 x10 x11 x12 x83 x84 x85 x86 x87 x88 x89 x90 x91 x92 x93 x94 x95 x96 x97 x98 x99 x100 x101 x102 x103 x104 x105 x106 x107 x108 x109 x110 x111 x112 x113 x114 x115 x116 x117 x118 x119 x120 x121 x122 x123 x124 x125 x126 x127 x128 x129 x130 x131 x132 x133 x134 x135 x136 x137 x138 x139 x140 x141 x142 x143 x144 x145 x146 x147 x148 x149 x150 x151 x152 x153 x154 x155 x156 x157 x158 x159 x160 x161 x162 x163 x164 x165 x166 x167 : Value) (w' : World) (vl' vbr' : Value) (l' : List (Nat × Nat)) (t' : List (List (List Nat))), BWU wb w' gb gm gM L c1 cap4 cap5 cap6 vl' vleaf vbr' l' lf t' → Mid L br l0 l' → l <+: l' → (∀ s ∈ l', P s) →
      TabOK L br l' (fun _ => l0.length) t' → t'.length = l0.length →
      Q (.exit 4) ⟨List.toArray ((.pointer (some ⟨gb, 0, none⟩)) :: u1 :: u2 :: (.pointer (some ⟨gM, 0, none⟩)) :: u4 :: u5 :: u6 :: u7 :: (.int .i64 l0.length) :: x9 :: x10 :: x11 :: x12 :: u13 :: u14 :: u15 :: u16 :: u17 :: u18 :: u19 :: u20 :: u21 :: u22 :: u23 :: u24 :: u25 :: u26 :: u27 :: 
      u28 :: u29 :: u30 :: u31 :: u32 :: u33 :: u34 :: u35 :: u36 :: u37 :: u38 :: u39 :: u40 :: u41 :: u42 :: u43 :: u44 :: u45 :: u46 :: u47 :: u48 :: u49 :: u50 :: u51 :: u52 :: u53 :: u54 :: u55 :: u56 :: u57 :: u58 :: u59 :: u60 :: u61 :: u62 :: u63 :: u64 :: 
      u65 :: u66 :: u67 :: u68 :: u69 :: u70 :: u71 :: u72 :: u73 :: u74 :: u75 :: u76 :: u77 :: u78 :: u79 :: u80 :: u81 :: (.int .i64 l0.length) :: x83 :: x84 :: x85 :: x86 :: x87 :: x88 :: x89 :: x90 :: x91 :: x92 :: x93 :: x94 :: x95 :: x96 :: x97 :: x98 :: x99 :: 
      x100 :: x101 :: x102 :: x103 :: x104 :: x105 :: x106 :: x107 :: x108 :: x109 :: x110 :: x111 :: x112 :: x113 :: x114 :: x115 :: x116 :: x117 :: x118 :: x119 :: x120 :: x121 :: x122 :: x123 :: x124 :: x125 :: x126 :: x127 :: x128 :: x129 :: x130 :: x131 :: x132 :: 
      x133 :: x134 :: x135 :: x136 :: x137 :: x138 :: x139 :: x140 :: x141 :: x142 :: x143 :: x144 :: x145 :: x146 :: x147 :: x148 :: x149 :: x150 :: x151 :: x152 :: x153 :: x154 :: x155 :: x156 :: x157 :: x158 :: x159 :: x160 :: x161 :: x162 :: x163 :: x164 :: x165 :: 
      x166 :: x167 :: u168 :: u169 :: u170 :: u171 :: u172 :: u173 :: u174 :: u175 :: u176 :: u177 :: u178 :: u179 :: u180 :: u181 :: u182 :: u183 :: u184 :: u185 :: u186 :: u187 :: u188 :: u189 :: u190 :: u191 :: u192 :: u193 :: u194 :: u195 :: u196 :: []), []⟩ w') :
    (Code.loop (loopBody Try.f92 2)).wp Try.prog Q ⟨List.toArray ((.pointer (some ⟨gb, 0, none⟩)) :: u1 :: u2 :: (.pointer (some ⟨gM, 0, none⟩)) :: u4 :: u5 :: u6 :: u7 :: (.int .i64 l0.length) :: u9 :: u10 :: u11 :: u12 :: u13 :: u14 :: u15 :: u16 :: u17 :: u18 :: u19 :: u20 :: u21 :: u22 :: u23 :: u24 :: u25 :: u26 :: u27 :: 
      u28 :: u29 :: u30 :: u31 :: u32 :: u33 :: u34 :: u35 :: u36 :: u37 :: u38 :: u39 :: u40 :: u41 :: u42 :: u43 :: u44 :: u45 :: u46 :: u47 :: u48 :: u49 :: u50 :: u51 :: u52 :: u53 :: u54 :: u55 :: u56 :: u57 :: u58 :: u59 :: u60 :: u61 :: u62 :: u63 :: u64 :: 
      u65 :: u66 :: u67 :: u68 :: u69 :: u70 :: u71 :: u72 :: u73 :: u74 :: u75 :: u76 :: u77 :: u78 :: u79 :: u80 :: u81 :: (.int .i64 l0.length) :: (.int .i64 0) :: u84 :: u85 :: u86 :: u87 :: u88 :: u89 :: u90 :: u91 :: u92 :: u93 :: u94 :: u95 :: u96 :: u97 :: 
      u98 :: u99 :: u100 :: u101 :: u102 :: u103 :: u104 :: u105 :: u106 :: u107 :: u108 :: u109 :: u110 :: u111 :: u112 :: u113 :: u114 :: u115 :: u116 :: u117 :: u118 :: u119 :: u120 :: u121 :: u122 :: u123 :: u124 :: u125 :: u126 :: u127 :: u128 :: u129 :: u130 :: 
      u131 :: u132 :: u133 :: u134 :: u135 :: u136 :: u137 :: u138 :: u139 :: u140 :: u141 :: u142 :: u143 :: u144 :: u145 :: u146 :: u147 :: u148 :: u149 :: u150 :: u151 :: u152 :: u153 :: u154 :: u155 :: u156 :: u157 :: u158 :: u159 :: u160 :: u161 :: u162 :: u163 :: 
      u164 :: u165 :: u166 :: u167 :: u168 :: u169 :: u170 :: u171 :: u172 :: u173 :: u174 :: u175 :: u176 :: u177 :: u178 :: u179 :: u180 :: u181 :: u182 :: u183 :: u184 :: u185 :: u186 :: u187 :: u188 :: u189 :: u190 :: u191 :: u192 :: u193 :: u194 :: u195 :: u196 :: 
      []), []⟩ w := by
  conv => arg 2; arg 1; whnf
  go_loopw [83] (fun ii wr => ∃ (i : Nat) (l' : List (Nat × Nat)) (vl' vbr' : Value) (t' : List (List (List Nat))), ii = .int .i64 (i : Int) ∧ i ≤ l0.length ∧ BWU wb wr gb gm gM L c1 cap4 cap5 cap6 vl' vleaf vbr' l' lf t' ∧ Mid L br l0 l' ∧ l <+: l' ∧ (∀ s ∈ l', P s) ∧
    TabOK L br l' (lcnt l0.length n0 i) t' ∧ t'.length = max n0 i) (fun ii _ => l0.length - (intOf ii).toNat)
  case atStart => exact ⟨0, l, vl, vbr, t, rfl, Nat.zero_le _, hB, hM, List.prefix_refl _, hP, hT.congr (fun k _ => by simp [lcnt]), by omega⟩
  case round =>
    obtain ⟨i, l', vl', vbr', t', rfl, hi, hB', hM', hpre, hP', hT', htl'⟩ := hrel
    obtain ⟨us, hu⟩ := hB'.tab.open
    obtain ⟨A, c, rfl⟩ := slice_of_own hu.own
    have hcm := hB'.mach.cell
    have hM2 := hide hM'
    have hPP := hide hP'
    have hpp := hide hpre
    have hTT := hide hT'
    have hTL := hide htl'
    clear hM' hP' hpre hM hP hT hT' htl'
    have hwb := hB'.kept.size
    by_cases hlt : i < t'.length
    · have hul := hu.len
      obtain ⟨r, hri⟩ : ∃ r, t'[i]? = some r := ⟨_, List.getElem?_eq_getElem hlt⟩
      obtain ⟨ui, hui⟩ : ∃ ui, us[i]? = some ui := ⟨_, List.getElem?_eq_getElem (by omega)⟩
      obtain ⟨uis, hr1, hr2, hr3⟩ := hu.row i ui r hui hri
      obtain ⟨gv, cap, hvb, hci⟩ := own_get hu.own hui
      injection hvb with e1 e2 e3
      subst e1 e3
      obtain ⟨Ai, ci, rfl⟩ := slice_of_own hr2
      have hrn : r.length = lcnt l0.length n0 i i := (hTT.out i r hri).1
      have hrl : r.length ≤ l0.length := by rw [hrn]; unfold lcnt; split <;> omega
      have hHrn := hide hrn
      have hHri := hide hri
      clear hui hr1 hri hrn hul e2
      go_wp2_with fail
      · refine bld_rows hC hl0 hL (by omega) hrl hB' hM2.out hPP.out hHrn.out.symm hlt hTT.out ?_ ?_
        · repeat (first | exact hN | refine Reg.NoQ.then ?_ | refine Reg.NoQ.inBlock ?_)
        · iterate 60 (intro _)
          intro w2 vl2 l2 t2 hB2 hM3 hpre2 hP2 hT2 htl2
          have hMM := hide hM3
          have hPP2 := hide hP2
          have hpp2 := hide hpre2
          have hTT2 := hide hT2
          have hTL2 := hide htl2
          clear hM3 hP2 hpre2 hT2 htl2
          go_wp2_with fail
          refine ⟨⟨i + 1, l2, vl2, _, t2, by simp, by omega, hB2, hMM.out, hpp.out.trans hpp2.out, hPP2.out, ?_, by rw [hTL2.out]; have := hTL.out; omega⟩, by simp [intOf]; omega⟩
          refine hTT2.out.congr fun k _ => ?_
          simp only [upd, lcnt]
          (repeat' split) <;> omega
      · have e : i = l0.length := by omega
        subst e
        exact hQ _ _ _ _ _ _ _ _ _ _ _ _ _ _ _ _ _ _ _ _ _ _ _ _ _ _ _ _ _ _ _ _ _ _ _ _ _ _ _ _ _ _ _ _ _ _ _ _ _ _ _ _ _ _ _ _ _ _ _ _ _ _ _ _ _ _ _ _ _ _ _ _ _ _ _ _ _ _ _ _ _ _ _ _ _ _ _ _ _ wr vl' _ l' t' hB' hM2.out hpp.out hPP.out (hTT.out.congr fun k hk => by have := hTL.out; simp [lcnt]; omega) (by have := hTL.out; omega)
    · have hti : t'.length = i := by have := hTL.out; omega
      subst hti
      go_wp2_with (at_builtin; refine wpList_app_new row80 rfl _ _ rfl wb.heap.size (.slice A t'.length c) t'.length us rfl hu.own [.slice none 0 0] 1 rfl rfl (by simp [Value.oneCell']) (by omega) hwb ?_; intro g cap' w3 hown hk3 hmv3 hg3; have hm3 := hB'.mach.kept hk3 (fun e => own_blk_ne hu.own hB'.mach (by decide) e); have hcm3 := hm3.cell; have hfm3 := hm3.frozen; have hcg : ∀ u, (w3.setCell ⟨gM, 3, none⟩ u).cell? ⟨g, t'.length, none⟩ = some (.slice none 0 0) := fun u => own_cell (own_ty ((Kept.refl w3 (fun k => k = gM)).setCell (p := ⟨gM, 3, none⟩) (fun _ => rfl) u) hown (fun k cs e hb => by subst e; exact hm3.ne_ hb (by decide) rfl)) (by rw [← hu.len]; simp))
      · have hu3 := hu.push hk3 hown
        have hks := (Kept.refl w3 (fun k => k = gM)).setCell (p := ⟨gM, 3, none⟩) (fun _ => rfl) (.slice (some ⟨g, 0, none⟩) (t'.length + 1) cap')
        have hg82 : ∀ (e : TypeId), e ≠ 82 → ∀ k cs, k = gM → ¬ Blk w3 k e cs := fun e he k cs ek hb => by subst ek; exact hm3.ne_ hb (fun h => he h.symm) rfl
        have hu4 := hu3.keep hks (hg82 3 (by decide)) (hg82 22 (by decide)) (fun k hk ek => hg82 104 (by decide) k _ ek (own_blk hown hk).choose_spec)
        have hX : ∀ k, ((Value.slice A t'.length c).ownBlock = some k ∨ k = gM) → wb.heap.size ≤ k ∧ ∃ t cs, Blk wr k t cs ∧ t ≠ 125 ∧ 118 ≠ t ∧ t ≠ 3 := by
          rintro k (hk | rfl)
          · obtain ⟨cs, hb⟩ := own_blk hu.own hk
            exact ⟨own_base hu.own hk, 104, cs, hb, by decide, by decide, by decide⟩
          · exact ⟨hB'.gM_, 82, _, hB'.mach, by decide, by decide, by decide⟩
        have hk5 := (hk3.mono (Y := fun k => (Value.slice A t'.length c).ownBlock = some k ∨ k = gM) fun _ _ h => .inl h).setCell (p := ⟨gM, 3, none⟩) (fun _ => .inr rfl) (.slice (some ⟨g, 0, none⟩) (t'.length + 1) cap')
        have hB4 := hB'.table hk5 hX (hm3.set_ 3 _) hu4.close
        refine bld_rows (j0 := 0) hC hl0 hL (by omega) (Nat.zero_le _) hB4 hM2.out hPP.out (cnt := upd (lcnt l0.length n0 t'.length) t'.length 0) (by simp [upd]) (by simp) hTT.out.push ?_ ?_
        · repeat (first | exact hN | refine Reg.NoQ.then ?_ | refine Reg.NoQ.inBlock ?_)
        · iterate 60 (intro _)
          intro w2 vl2 l2 t2 hB2 hM3 hpre2 hP2 hT2 htl2
          have hMM := hide hM3
          have hPP2 := hide hP2
          have hpp2 := hide hpre2
          have hTT2 := hide hT2
          have hTL2 := hide htl2
          clear hM3 hP2 hpre2 hT2 htl2
          go_wp2_with fail
          refine ⟨⟨t'.length + 1, l2, vl2, _, t2, by simp, by omega, hB2, hMM.out, hpp.out.trans hpp2.out, hPP2.out, ?_, by rw [hTL2.out]; have := hTL.out; simp; omega⟩, by simp [intOf]; omega⟩
          refine hTT2.out.congr fun k _ => ?_
          simp only [upd, lcnt]
          (repeat' split) <;> omega
      · have e : t'.length = l0.length := by omega
        exact hQ _ _ _ _ _ _ _ _ _ _ _ _ _ _ _ _ _ _ _ _ _ _ _ _ _ _ _ _ _ _ _ _ _ _ _ _ _ _ _ _ _ _ _ _ _ _ _ _ _ _ _ _ _ _ _ _ _ _ _ _ _ _ _ _ _ _ _ _ _ _ _ _ _ _ _ _ _ _ _ _ _ _ _ _ _ _ _ _ _ wr vl' _ l' t' hB' hM2.out hpp.out hPP.out (hTT.out.congr fun k hk => by have := hTL.out; simp [lcnt]; omega) e
end PB
end Go.Proofs.Ytnimlcbgeiajiaa

namespace Go.Proofs.Ytnimlcbgeiajiaa
open Go.RowKit
namespace PB

theorem BWU.drew {wb w : World} {gb gm gM L : Nat} {c1 cap4 cap5 cap6 vl vleaf vbr : Value} {l : List (Nat × Nat)} {lf : List Nat} {t : List (List (List Nat))} (h : BWU wb w gb gm gM L c1 cap4 cap5 cap6 vl vleaf vbr l lf t) : BWU wb w.drew gb gm gM L c1 cap4 cap5 cap6 vl vleaf vbr l lf t :=
  h.below ⟨rfl, rfl, rfl, Nat.le_refl _, fun _ _ => rfl⟩

set_option maxHeartbeats 4000000 in
set_option maxRecDepth 100000 in
theorem bld_rounds {wb : World} {gb gm gM L : Nat} {cap4 cap5 cap6 : Value} {leaf : Nat → Nat × Nat} {br : Nat → Nat × Nat → Nat × Nat → Nat × Nat} {acc : Nat × Nat → Bool} {P : Nat × Nat → Prop} (hC : ClosU wb gb L cap4 cap5 cap6 leaf br acc P)
    (hL : L ≤ 8)
    {w : World} {vl vleaf : Value} {l : List (Nat × Nat)} {lf : List Nat} (hB : BWU wb w gb gm gM L (.int .i64 0) cap4 cap5 cap6 vl vleaf (.slice none 0 0) l lf []) (hn : l.Nodup) (hR : ∀ s ∈ l, Reach L leaf br s) (hP : ∀ s ∈ l, P s)
    {u1 u2 u4 u5 u7 u8 u9 u10 u11 u12 u13 u14 u15 u16 u17 u18 u19 u20 u21 u22 u23 u24 u25 u26 u27 u28 u29 u30 u31 u32 u33 u34 u35 u36 u37 u38 u39 u40 u41 u42 u43 u44 u45 u46 u47 u48 u49 u50 u51 u52 u53 u54 u55 u56 u57 u58 u59 u60 u61 u62 u63 u64 u65 u66 u67 u68 u69 u70 u71 u72 u73 u74 u75 u76 u77 u78 u79 u80 u81 u82 u83 u84 u85 u86 u87 u88 u89 u90 u91 u92 u93 u94 u95 u96 u97 u98 u99 u100 u101 u102 u103 u104 u105 u106 u107 u108 u109 u110 u111 u112 u113 u114 u115 u116 u117 u118 u119 u120 u121 u122 u123 u124 u125 u126 u127 u128 u129 u130 u131 u132 u133 u134 u135 u136 u137 u138 u139 u140 u141 u142 u143 u144 u145 u146 u147 u148 u149 u150 u151 u152 u153 u154 u155 u156 u157 u158 u159 u160 u161 u162 u163 u164 u165 u166 u167 u168 u169 u170 u171 u172 u173 u174 u175 u176 u177 u178 u179 u180 u181 u182 u183 u184 u185 u186 u187 u188 u189 u190 u191 u192 u193 u194 u195 u196 : Value}
    {Q : Exit → Act → World → Prop} (hN : Reg.NoQ Q)
    (hQ : ∀ (x2 x6 x7 x8 x9 x10 x11 x12 x51 x52 x53 x54 x55 x56 x57 x58 x59 x60 x61 x62 x63 x64 x65 x66 x67 x68 x69 x70 x71 x72 x73 x74 x75 x76 x77 x78 x79 x80 x81 x82 x83 x84 x85 x86 x87 x88 x89 x90 x91 x92 x93 x94 x95 x96 x97 x98 x99 x100 x101 x102 x103 x104 x105 x106 x107 x108 x109 x110 x111 x112 x113 x114 x115 x116 x117 x118 x119 x120 x121 x122 x123 x124 x125 x126 x127 x128 x129 x130 x131 x132 x133 x134 x135 x136 x137 x138 x139 x140 x141 x142 x143 x144 x145 x146 x147 x148 x149 x150 x151 x152 x153 x154 x155 x156 x157 x158 x159 x160 x161 x162 x163 x164 x165 x166 x167 x168 x169 x170 : Value) (w' : World) (vl' vbr' : Value) (l' : List (Nat × Nat)) (t' : List (List (List Nat))), BWU wb w' gb gm gM L (.int .i64 0) cap4 cap5 cap6 vl' vleaf vbr' l' lf t' → l <+: l' → l'.Nodup → (∀ s ∈ l', Reach L leaf br s) → (∀ s ∈ l', P s) →
      TabOK L br l' (fun _ => l'.length) t' → t'.length = l'.length →
      Q (.exit 2) ⟨List.toArray ((.pointer (some ⟨gb, 0, none⟩)) :: u1 :: x2 :: (.pointer (some ⟨gM, 0, none⟩)) :: u4 :: u5 :: x6 :: x7 :: x8 :: x9 :: x10 :: x11 :: x12 :: u13 :: u14 :: u15 :: u16 :: u17 :: u18 :: u19 :: u20 :: u21 :: u22 :: u23 :: u24 :: u25 :: u26 :: u27 :: u28 :: u29 :: 
      u30 :: u31 :: u32 :: u33 :: u34 :: u35 :: u36 :: u37 :: u38 :: u39 :: u40 :: u41 :: u42 :: u43 :: u44 :: u45 :: u46 :: u47 :: u48 :: u49 :: u50 :: x51 :: x52 :: x53 :: x54 :: x55 :: x56 :: x57 :: x58 :: x59 :: x60 :: x61 :: x62 :: x63 :: x64 :: x65 :: x66 :: 
      x67 :: x68 :: x69 :: x70 :: x71 :: x72 :: x73 :: x74 :: x75 :: x76 :: x77 :: x78 :: x79 :: x80 :: x81 :: x82 :: x83 :: x84 :: x85 :: x86 :: x87 :: x88 :: x89 :: x90 :: x91 :: x92 :: x93 :: x94 :: x95 :: x96 :: x97 :: x98 :: x99 :: x100 :: x101 :: x102 :: x103 :: 
      x104 :: x105 :: x106 :: x107 :: x108 :: x109 :: x110 :: x111 :: x112 :: x113 :: x114 :: x115 :: x116 :: x117 :: x118 :: x119 :: x120 :: x121 :: x122 :: x123 :: x124 :: x125 :: x126 :: x127 :: x128 :: x129 :: x130 :: x131 :: x132 :: x133 :: x134 :: x135 :: x136 :: 
      x137 :: x138 :: x139 :: x140 :: x141 :: x142 :: x143 :: x144 :: x145 :: x146 :: x147 :: x148 :: x149 :: x150 :: x151 :: x152 :: x153 :: x154 :: x155 :: x156 :: x157 :: x158 :: x159 :: x160 :: x161 :: x162 :: x163 :: x164 :: x165 :: x166 :: x167 :: x168 :: x169 :: 
      x170 :: u171 :: u172 :: u173 :: u174 :: u175 :: u176 :: u177 :: u178 :: u179 :: u180 :: u181 :: u182 :: u183 :: u184 :: u185 :: u186 :: u187 :: u188 :: u189 :: u190 :: u191 :: u192 :: u193 :: u194 :: u195 :: u196 :: []), []⟩ w') :
    (Code.loop (loopBody Try.f92 1)).wp Try.prog Q ⟨List.toArray ((.pointer (some ⟨gb, 0, none⟩)) :: u1 :: u2 :: (.pointer (some ⟨gM, 0, none⟩)) :: u4 :: u5 :: (.int .i64 0) :: u7 :: u8 :: u9 :: u10 :: u11 :: u12 :: u13 :: u14 :: u15 :: u16 :: u17 :: u18 :: u19 :: u20 :: u21 :: u22 :: u23 :: u24 :: u25 :: u26 :: u27 :: u28 :: 
      u29 :: u30 :: u31 :: u32 :: u33 :: u34 :: u35 :: u36 :: u37 :: u38 :: u39 :: u40 :: u41 :: u42 :: u43 :: u44 :: u45 :: u46 :: u47 :: u48 :: u49 :: u50 :: u51 :: u52 :: u53 :: u54 :: u55 :: u56 :: u57 :: u58 :: u59 :: u60 :: u61 :: u62 :: u63 :: u64 :: u65 :: 
      u66 :: u67 :: u68 :: u69 :: u70 :: u71 :: u72 :: u73 :: u74 :: u75 :: u76 :: u77 :: u78 :: u79 :: u80 :: u81 :: u82 :: u83 :: u84 :: u85 :: u86 :: u87 :: u88 :: u89 :: u90 :: u91 :: u92 :: u93 :: u94 :: u95 :: u96 :: u97 :: u98 :: u99 :: u100 :: u101 :: u102 :: 
      u103 :: u104 :: u105 :: u106 :: u107 :: u108 :: u109 :: u110 :: u111 :: u112 :: u113 :: u114 :: u115 :: u116 :: u117 :: u118 :: u119 :: u120 :: u121 :: u122 :: u123 :: u124 :: u125 :: u126 :: u127 :: u128 :: u129 :: u130 :: u131 :: u132 :: u133 :: u134 :: u135 :: 
      u136 :: u137 :: u138 :: u139 :: u140 :: u141 :: u142 :: u143 :: u144 :: u145 :: u146 :: u147 :: u148 :: u149 :: u150 :: u151 :: u152 :: u153 :: u154 :: u155 :: u156 :: u157 :: u158 :: u159 :: u160 :: u161 :: u162 :: u163 :: u164 :: u165 :: u166 :: u167 :: u168 :: 
      u169 :: u170 :: u171 :: u172 :: u173 :: u174 :: u175 :: u176 :: u177 :: u178 :: u179 :: u180 :: u181 :: u182 :: u183 :: u184 :: u185 :: u186 :: u187 :: u188 :: u189 :: u190 :: u191 :: u192 :: u193 :: u194 :: u195 :: u196 :: []), []⟩ w := by
  conv => arg 2; arg 1; whnf
  go_loopw [6] (fun kk wr => ∃ (k : Nat) (l' : List (Nat × Nat)) (vl' vbr' : Value) (t' : List (List (List Nat))), kk = .int .i64 (k : Int) ∧ k ≤ l'.length ∧ BWU wb wr gb gm gM L (.int .i64 0) cap4 cap5 cap6 vl' vleaf vbr' l' lf t' ∧ l <+: l' ∧ l'.Nodup ∧ (∀ s ∈ l', Reach L leaf br s) ∧ (∀ s ∈ l', P s) ∧
    TabOK L br l' (fun _ => k) t' ∧ t'.length = k) (fun kk _ => 60000 - (intOf kk).toNat)
  case atStart => exact ⟨0, l, vl, _, [], rfl, by omega, hB, List.prefix_refl _, hn, hR, hP, fun i r h => by simp at h, rfl⟩
  case round =>
    obtain ⟨k, l', vl', vbr', t', rfl, hkl, hB', hpre, hn', hR', hP', hT', htl'⟩ := hrel
    obtain ⟨A, c, rfl⟩ := slice_of_own hB'.bld.row
    have hcb := hB'.bld.blk.cell
    have hl' := hC.plen l' hn' hP'
    have hNN := hide hn'
    have hRR := hide hR'
    have hPP := hide hP'
    have hpp := hide hpre
    have hTT := hide hT'
    have hTL := hide htl'
    clear hn' hR' hP' hpre hT' htl' hR hP hn
    go_wp2_with fail
    · refine Reg.region_plain [0, 1, 3, 7, 15, 31, 63, 127, 255, 511, 1023, 63, 2111, 6207, 14399, 32767, 65535] (by kernel_rfl) (by repeat (first | exact hN | refine Reg.NoQ.then ?_ | refine Reg.NoQ.inBlock ?_)) ?_
      go_wp2_with fail
      refine Reg.region_plain [0, 0, 2, 6, 14, 30, 1, 127] (by kernel_rfl) (by repeat (first | exact hN | refine Reg.NoQ.then ?_ | refine Reg.NoQ.inBlock ?_)) ?_
      go_wp2_with fail
      refine bld_lines (n0 := k) (l0 := l') hC (by omega) hL hkl hB'.drew.drew (Mid.refl hNN.out) hPP.out hTL.out hTT.out ?_ ?_
      · repeat (first | exact hN | refine Reg.NoQ.then ?_ | refine Reg.NoQ.inBlock ?_)
      · iterate 89 (intro _)
        intro w2 vl2 vbr2 l2 t2 hB2 hM3 hpre2 hP2 hT2 htl2
        have hMM := hide hM3
        have hPP2 := hide hP2
        have hpp2 := hide hpre2
        have hTT2 := hide hT2
        have hTL2 := hide htl2
        clear hM3 hP2 hpre2 hT2 htl2
        go_wp2_with fail
        exact ⟨⟨l'.length, l2, vl2, _, t2, rfl, hpp2.out.length_le, hB2, hpp.out.trans hpp2.out, hMM.out.nodup, hMM.out.reach hRR.out, hPP2.out, hTT2.out, hTL2.out⟩, by simp [intOf]; omega⟩
    · obtain rfl : k = l'.length := by omega
      exact hQ _ _ _ _ _ _ _ _ _ _ _ _ _ _ _ _ _ _ _ _ _ _ _ _ _ _ _ _ _ _ _ _ _ _ _ _ _ _ _ _ _ _ _ _ _ _ _ _ _ _ _ _ _ _ _ _ _ _ _ _ _ _ _ _ _ _ _ _ _ _ _ _ _ _ _ _ _ _ _ _ _ _ _ _ _ _ _ _ _ _ _ _ _ _ _ _ _ _ _ _ _ _ _ _ _ _ _ _ _ _ _ _ _ _ _ _ _ _ _ _ _ _ _ _ _ _ _ _ wr _ _ l' t' hB' hpp.out hNN.out hRR.out hPP.out hTT.out hTL.out
end PB
end Go.Proofs.Ytnimlcbgeiajiaa

namespace Go.Proofs.Ytnimlcbgeiajiaa
open Go.RowKit
namespace PB

set_option maxHeartbeats 4000000 in
set_option maxRecDepth 100000 in
theorem bld_leaves {wb : World} {gb gm gM L : Nat} {c1 cap4 cap5 cap6 : Value} {leaf : Nat → Nat × Nat} {br : Nat → Nat × Nat → Nat × Nat → Nat × Nat} {acc : Nat × Nat → Bool} {P : Nat × Nat → Prop} (hC : ClosU wb gb L cap4 cap5 cap6 leaf br acc P)
    (hL : L ≤ 8)
    {w : World} (hB : BWU wb w gb gm gM L c1 cap4 cap5 cap6 (.slice none 0 0) (.slice none 0 0) (.slice none 0 0) [] [] [])
    {u1 u2 u4 u5 u6 u7 u8 u9 u10 u11 u12 u13 u14 u15 u16 u17 u18 u19 u20 u21 u22 u23 u24 u25 u26 u27 u30 u31 u32 u33 u34 u35 u36 u37 u38 u39 u40 u41 u42 u43 u44 u45 u46 u47 u48 u49 u50 u51 u52 u53 u54 u55 u56 u57 u58 u59 u60 u61 u62 u63 u64 u65 u66 u67 u68 u69 u70 u71 u72 u73 u74 u75 u76 u77 u78 u79 u80 u81 u82 u83 u84 u85 u86 u87 u88 u89 u90 u91 u92 u93 u94 u95 u96 u97 u98 u99 u100 u101 u102 u103 u104 u105 u106 u107 u108 u109 u110 u111 u112 u113 u114 u115 u116 u117 u118 u119 u120 u121 u122 u123 u124 u125 u126 u127 u128 u129 u130 u131 u132 u133 u134 u135 u136 u137 u138 u139 u140 u141 u142 u143 u144 u145 u146 u147 u148 u149 u150 u151 u152 u153 u154 u155 u156 u157 u158 u159 u160 u161 u162 u163 u164 u165 u166 u167 u168 u169 u170 u171 u172 u173 u174 u175 u176 u177 u178 u179 u180 u181 u182 u183 u184 u185 u186 u187 u188 u189 u190 u191 u192 u193 u194 u195 u196 : Value}
    {Q : Exit → Act → World → Prop} (_ : Reg.NoQ Q)
    (hQ : ∀ (x4 x5 x29 x30 x31 x32 x33 x34 x35 x36 x37 x38 x39 x40 x41 x42 x43 x44 x45 x46 x47 x48 x49 x50 : Value) (w' : World) (vl' vleaf' : Value) (l' : List (Nat × Nat)) (lf' : List Nat), BWU wb w' gb gm gM L c1 cap4 cap5 cap6 vl' vleaf' (.slice none 0 0) l' lf' [] → l'.Nodup → (∀ s ∈ l', Reach L leaf br s) → (∀ s ∈ l', P s) →
      l'.length ≤ L → lf'.length = L → LeafOK leaf l' lf' →
      Q (.exit 0) ⟨List.toArray ((.pointer (some ⟨gb, 0, none⟩)) :: u1 :: u2 :: (.pointer (some ⟨gM, 0, none⟩)) :: x4 :: x5 :: u6 :: u7 :: u8 :: u9 :: u10 :: u11 :: u12 :: u13 :: u14 :: u15 :: u16 :: u17 :: u18 :: u19 :: u20 :: u21 :: u22 :: u23 :: u24 :: u25 :: u26 :: u27 :: (.int .i64 L) :: 
      x29 :: x30 :: x31 :: x32 :: x33 :: x34 :: x35 :: x36 :: x37 :: x38 :: x39 :: x40 :: x41 :: x42 :: x43 :: x44 :: x45 :: x46 :: x47 :: x48 :: x49 :: x50 :: u51 :: u52 :: u53 :: u54 :: u55 :: u56 :: u57 :: u58 :: u59 :: u60 :: u61 :: u62 :: u63 :: u64 :: u65 :: 
      u66 :: u67 :: u68 :: u69 :: u70 :: u71 :: u72 :: u73 :: u74 :: u75 :: u76 :: u77 :: u78 :: u79 :: u80 :: u81 :: u82 :: u83 :: u84 :: u85 :: u86 :: u87 :: u88 :: u89 :: u90 :: u91 :: u92 :: u93 :: u94 :: u95 :: u96 :: u97 :: u98 :: u99 :: u100 :: u101 :: u102 :: 
      u103 :: u104 :: u105 :: u106 :: u107 :: u108 :: u109 :: u110 :: u111 :: u112 :: u113 :: u114 :: u115 :: u116 :: u117 :: u118 :: u119 :: u120 :: u121 :: u122 :: u123 :: u124 :: u125 :: u126 :: u127 :: u128 :: u129 :: u130 :: u131 :: u132 :: u133 :: u134 :: u135 :: 
      u136 :: u137 :: u138 :: u139 :: u140 :: u141 :: u142 :: u143 :: u144 :: u145 :: u146 :: u147 :: u148 :: u149 :: u150 :: u151 :: u152 :: u153 :: u154 :: u155 :: u156 :: u157 :: u158 :: u159 :: u160 :: u161 :: u162 :: u163 :: u164 :: u165 :: u166 :: u167 :: u168 :: 
      u169 :: u170 :: u171 :: u172 :: u173 :: u174 :: u175 :: u176 :: u177 :: u178 :: u179 :: u180 :: u181 :: u182 :: u183 :: u184 :: u185 :: u186 :: u187 :: u188 :: u189 :: u190 :: u191 :: u192 :: u193 :: u194 :: u195 :: u196 :: []), []⟩ w') :
    (Code.loop (loopBody Try.f92 0)).wp Try.prog Q ⟨List.toArray ((.pointer (some ⟨gb, 0, none⟩)) :: u1 :: u2 :: (.pointer (some ⟨gM, 0, none⟩)) :: u4 :: u5 :: u6 :: u7 :: u8 :: u9 :: u10 :: u11 :: u12 :: u13 :: u14 :: u15 :: u16 :: u17 :: u18 :: u19 :: u20 :: u21 :: u22 :: u23 :: u24 :: u25 :: u26 :: u27 :: (.int .i64 L) :: 
      (.int .i64 0) :: u30 :: u31 :: u32 :: u33 :: u34 :: u35 :: u36 :: u37 :: u38 :: u39 :: u40 :: u41 :: u42 :: u43 :: u44 :: u45 :: u46 :: u47 :: u48 :: u49 :: u50 :: u51 :: u52 :: u53 :: u54 :: u55 :: u56 :: u57 :: u58 :: u59 :: u60 :: u61 :: u62 :: u63 :: u64 :: 
      u65 :: u66 :: u67 :: u68 :: u69 :: u70 :: u71 :: u72 :: u73 :: u74 :: u75 :: u76 :: u77 :: u78 :: u79 :: u80 :: u81 :: u82 :: u83 :: u84 :: u85 :: u86 :: u87 :: u88 :: u89 :: u90 :: u91 :: u92 :: u93 :: u94 :: u95 :: u96 :: u97 :: u98 :: u99 :: u100 :: u101 :: 
      u102 :: u103 :: u104 :: u105 :: u106 :: u107 :: u108 :: u109 :: u110 :: u111 :: u112 :: u113 :: u114 :: u115 :: u116 :: u117 :: u118 :: u119 :: u120 :: u121 :: u122 :: u123 :: u124 :: u125 :: u126 :: u127 :: u128 :: u129 :: u130 :: u131 :: u132 :: u133 :: u134 :: 
      u135 :: u136 :: u137 :: u138 :: u139 :: u140 :: u141 :: u142 :: u143 :: u144 :: u145 :: u146 :: u147 :: u148 :: u149 :: u150 :: u151 :: u152 :: u153 :: u154 :: u155 :: u156 :: u157 :: u158 :: u159 :: u160 :: u161 :: u162 :: u163 :: u164 :: u165 :: u166 :: u167 :: 
      u168 :: u169 :: u170 :: u171 :: u172 :: u173 :: u174 :: u175 :: u176 :: u177 :: u178 :: u179 :: u180 :: u181 :: u182 :: u183 :: u184 :: u185 :: u186 :: u187 :: u188 :: u189 :: u190 :: u191 :: u192 :: u193 :: u194 :: u195 :: u196 :: []), []⟩ w := by
  conv => arg 2; arg 1; whnf
  go_loopw [29] (fun kk wr => ∃ (l' : List (Nat × Nat)) (lf' : List Nat) (vl' vleaf' : Value), kk = .int .i64 (lf'.length : Int) ∧ lf'.length ≤ L ∧ l'.length ≤ lf'.length ∧ BWU wb wr gb gm gM L c1 cap4 cap5 cap6 vl' vleaf' (.slice none 0 0) l' lf' [] ∧ l'.Nodup ∧ (∀ s ∈ l', Reach L leaf br s) ∧ (∀ s ∈ l', P s) ∧
    LeafOK leaf l' lf') (fun kk _ => L - (intOf kk).toNat)
  case atStart => exact ⟨[], [], _, _, rfl, by simp, by simp, hB, List.nodup_nil, by simp, by simp, fun x e h => by simp at h⟩
  case round =>
    obtain ⟨l', lf', vl', vleaf', rfl, hlf, hll, hB', hn', hR', hP', hLf⟩ := hrel
    have hcb := hB'.bld.blk.cell
    have hwb := hB'.kept.size
    have hNN := hide hn'
    have hRR := hide hR'
    have hPP := hide hP'
    have hLL := hide hLf
    clear hn' hR' hP' hLf
    go_wp2_with (first
      | (go_at_call 89; refine Calls.ret (hC.fl _ hB'.kept lf'.length (by omega)) ?_; rintro v w1 ⟨rfl, hb1⟩; have hB1 := hB'.below hb1; have hsz1 := hb1.size)
      | (go_at_call 110; refine Calls.ret (meetU w1 wb.heap.size gb gm _ c1 _ _ _ _ l' (leaf lf'.length) hB1.bld (by omega) (Nat.le_trans hwb hsz1)) ?_; rintro v w2 ⟨rfl, vl2, hBl, hk2, hmv2⟩; have hB2 := hB1.list hk2 hBl; have hcm := hB2.mach.cell; have hwb2 := hB2.kept.size; obtain ⟨A, c, rfl⟩ := slice_of_own hB2.lfs)
      | (at_builtin; refine wpList_app_new row22 rfl _ _ rfl wb.heap.size (.slice A lf'.length c) lf'.length _ rfl hB2.lfs [.int .i64 (numL (meetL l' (leaf lf'.length)) (leaf lf'.length) : Nat)] 1 rfl rfl (by simp [Value.oneCell']) (by omega) hwb2 ?_; intro g cap' w3 hown hk3 hmv3 hg3; have hm3 := hB2.mach.kept hk3 (fun e => own_blk_ne hB2.lfs hB2.mach (by decide) e); have hcm3 := hm3.cell; have hfm3 := hm3.frozen))
    · have hX : ∀ k, ((Value.slice A lf'.length c).ownBlock = some k ∨ k = gM) → wb.heap.size ≤ k ∧ ∃ t cs, Blk w2 k t cs ∧ t ≠ 125 ∧ 118 ≠ t := by
        rintro k (hk | rfl)
        · obtain ⟨cs, hb⟩ := own_blk hB2.lfs hk
          exact ⟨own_base hB2.lfs hk, 3, cs, hb, by decide, by decide⟩
        · exact ⟨hB2.gM_, 82, _, hB2.mach, by decide, by decide⟩
      have hk5 := (hk3.mono (Y := fun k => (Value.slice A lf'.length c).ownBlock = some k ∨ k = gM) fun _ _ h => .inl h).setCell (p := ⟨gM, 2, none⟩) (fun _ => .inr rfl) (.slice (some ⟨g, 0, none⟩) (lf'.length + 1) cap')
      have hks := (Kept.refl w3 (fun k => k = gM)).setCell (p := ⟨gM, 2, none⟩) (fun _ => rfl) (.slice (some ⟨g, 0, none⟩) (lf'.length + 1) cap')
      have hown2 := own_ty hks hown (fun k cs e hb => by subst e; exact hm3.ne_ hb (by decide) rfl)
      have hlen := length_meetL l' (leaf lf'.length)
      refine ⟨⟨meetL l' (leaf lf'.length), lf' ++ [numL (meetL l' (leaf lf'.length)) (leaf lf'.length)], vl2, _, by simp, by simp; omega, by simp; omega,
        ⟨hB2.kept.trans hk5 (fun b hb hx => by have := (hX b hx).1; omega), hB2.bld.other hk5 (fun k hk => (hX k hk).2), hm3.set_ 2 _, ?_, Tab.nil, hB2.gm_, hB2.gM_⟩, nodup_meetL hNN.out _, ?_, ?_, ?_⟩, by simp [intOf]; omega⟩
      · unfold IntRow
        simpa [encN] using hown2
      · intro u hu
        rcases mem_meetL.1 hu with hu | rfl
        · exact hRR.out u hu
        · exact .leaf _ (by omega)
      · intro u hu
        rcases mem_meetL.1 hu with hu | rfl
        · exact hPP.out u hu
        · exact hC.pleaf _ (by omega)
      · exact (hLL.out.grow (prefix_meetL _ _)).snoc (get_numL _ _)
    · exact hQ _ _ _ _ _ _ _ _ _ _ _ _ _ _ _ _ _ _ _ _ _ _ _ _ wr vl' vleaf' l' lf' hB' hNN.out hRR.out hPP.out (by omega) (by omega) hLL.out
end PB
end Go.Proofs.Ytnimlcbgeiajiaa

namespace Go.Proofs.Ytnimlcbgeiajiaa
open Go.RowKit
namespace PB

set_option maxHeartbeats 4000000 in
set_option maxRecDepth 100000 in
theorem bld_accept {wb : World} {gb gm gM L g0 cap0 : Nat} {c1 cap4 cap5 cap6 vleaf vbr : Value} {leaf : Nat → Nat × Nat} {br : Nat → Nat × Nat → Nat × Nat → Nat × Nat} {acc : Nat × Nat → Bool} {P : Nat × Nat → Prop} (hC : ClosU wb gb L cap4 cap5 cap6 leaf br acc P)
    {w : World} {l : List (Nat × Nat)} {lf : List Nat} {t : List (List (List Nat))} (hK : Kept wb w (fun k => k = gb)) (hB : BldU w wb.heap.size gb gm (.int .i64 L) c1 (.func (.func 89) #[] #[cap4, cap5]) (.func (.func 90) #[] #[cap4, cap5]) (.func (.func 91) #[] #[cap6, cap4, cap5]) (.slice (some ⟨g0, 0, none⟩) l.length cap0) l)
    (hM : MachA w wb.heap.size gM L (.slice none 0 0) vleaf vbr [] lf t) (hgM : wb.heap.size ≤ gM) (hP : ∀ s ∈ l, P s) (hl : l.length ≤ 4096)
    {u1 u2 u4 u5 u6 u7 u8 u9 u10 u11 u12 u13 u14 u15 u16 u17 u18 u19 u20 u21 u22 u23 u24 u25 u26 u27 u28 u29 u30 u31 u32 u33 u34 u35 u36 u37 u38 u39 u40 u41 u42 u43 u44 u45 u46 u47 u48 u49 u50 u51 u52 u53 u54 u55 u56 u57 u58 u59 u60 u61 u62 u63 u64 u65 u66 u67 u68 u69 u70 u71 u72 u73 u74 u75 u76 u77 u78 u79 u80 u81 u82 u83 u84 u85 u86 u87 u88 u89 u90 u91 u92 u93 u94 u95 u96 u97 u98 u99 u100 u101 u102 u103 u104 u105 u106 u107 u108 u109 u110 u111 u112 u113 u114 u115 u116 u117 u118 u119 u120 u121 u122 u123 u124 u125 u126 u127 u128 u129 u130 u131 u132 u133 u134 u135 u136 u137 u138 u139 u140 u141 u142 u143 u144 u145 u146 u147 u148 u149 u150 u151 u152 u153 u154 u155 u156 u157 u158 u159 u160 u161 u162 u163 u164 u165 u166 u167 u168 u169 u170 u171 u172 u173 u177 u178 u179 u180 u181 u182 u183 u184 u185 u186 u187 u188 u189 u190 u191 u192 u193 u194 u195 u196 : Value}
    {Q : Exit → Act → World → Prop} (hN : Reg.NoQ Q)
    (hQ : ∀ (x14 x176 x177 x178 x179 x180 x181 x182 x183 x184 x185 x186 x187 x188 x189 x190 x191 x192 x193 x194 x195 : Value) (w' : World) (vacc : Value), Kept wb w' (fun k => k = gb) → MachA w' wb.heap.size gM L vacc vleaf vbr (l.map acc) lf t →
      Q (.exit 10) ⟨List.toArray ((.pointer (some ⟨gb, 0, none⟩)) :: u1 :: u2 :: (.pointer (some ⟨gM, 0, none⟩)) :: u4 :: u5 :: u6 :: u7 :: u8 :: u9 :: u10 :: u11 :: u12 :: u13 :: x14 :: u15 :: u16 :: u17 :: u18 :: u19 :: u20 :: u21 :: u22 :: u23 :: u24 :: u25 :: u26 :: u27 :: u28 :: u29 :: 
      u30 :: u31 :: u32 :: u33 :: u34 :: u35 :: u36 :: u37 :: u38 :: u39 :: u40 :: u41 :: u42 :: u43 :: u44 :: u45 :: u46 :: u47 :: u48 :: u49 :: u50 :: u51 :: u52 :: u53 :: u54 :: u55 :: u56 :: u57 :: u58 :: u59 :: u60 :: u61 :: u62 :: u63 :: u64 :: u65 :: u66 :: 
      u67 :: u68 :: u69 :: u70 :: u71 :: u72 :: u73 :: u74 :: u75 :: u76 :: u77 :: u78 :: u79 :: u80 :: u81 :: u82 :: u83 :: u84 :: u85 :: u86 :: u87 :: u88 :: u89 :: u90 :: u91 :: u92 :: u93 :: u94 :: u95 :: u96 :: u97 :: u98 :: u99 :: u100 :: u101 :: u102 :: u103 :: 
      u104 :: u105 :: u106 :: u107 :: u108 :: u109 :: u110 :: u111 :: u112 :: u113 :: u114 :: u115 :: u116 :: u117 :: u118 :: u119 :: u120 :: u121 :: u122 :: u123 :: u124 :: u125 :: u126 :: u127 :: u128 :: u129 :: u130 :: u131 :: u132 :: u133 :: u134 :: u135 :: u136 :: 
      u137 :: u138 :: u139 :: u140 :: u141 :: u142 :: u143 :: u144 :: u145 :: u146 :: u147 :: u148 :: u149 :: u150 :: u151 :: u152 :: u153 :: u154 :: u155 :: u156 :: u157 :: u158 :: u159 :: u160 :: u161 :: u162 :: u163 :: u164 :: u165 :: u166 :: u167 :: u168 :: u169 :: 
      u170 :: u171 :: u172 :: u173 :: (.slice (some ⟨g0, 0, none⟩) l.length cap0) :: (.int .i64 l.length) :: x176 :: x177 :: x178 :: x179 :: x180 :: x181 :: x182 :: x183 :: x184 :: x185 :: x186 :: x187 :: x188 :: x189 :: x190 :: x191 :: x192 :: x193 :: x194 :: x195 :: 
      u196 :: []), []⟩ w') :
    (Code.loop (loopBody Try.f92 5)).wp Try.prog Q ⟨List.toArray ((.pointer (some ⟨gb, 0, none⟩)) :: u1 :: u2 :: (.pointer (some ⟨gM, 0, none⟩)) :: u4 :: u5 :: u6 :: u7 :: u8 :: u9 :: u10 :: u11 :: u12 :: u13 :: u14 :: u15 :: u16 :: u17 :: u18 :: u19 :: u20 :: u21 :: u22 :: u23 :: u24 :: u25 :: u26 :: u27 :: u28 :: u29 :: 
      u30 :: u31 :: u32 :: u33 :: u34 :: u35 :: u36 :: u37 :: u38 :: u39 :: u40 :: u41 :: u42 :: u43 :: u44 :: u45 :: u46 :: u47 :: u48 :: u49 :: u50 :: u51 :: u52 :: u53 :: u54 :: u55 :: u56 :: u57 :: u58 :: u59 :: u60 :: u61 :: u62 :: u63 :: u64 :: u65 :: u66 :: 
      u67 :: u68 :: u69 :: u70 :: u71 :: u72 :: u73 :: u74 :: u75 :: u76 :: u77 :: u78 :: u79 :: u80 :: u81 :: u82 :: u83 :: u84 :: u85 :: u86 :: u87 :: u88 :: u89 :: u90 :: u91 :: u92 :: u93 :: u94 :: u95 :: u96 :: u97 :: u98 :: u99 :: u100 :: u101 :: u102 :: u103 :: 
      u104 :: u105 :: u106 :: u107 :: u108 :: u109 :: u110 :: u111 :: u112 :: u113 :: u114 :: u115 :: u116 :: u117 :: u118 :: u119 :: u120 :: u121 :: u122 :: u123 :: u124 :: u125 :: u126 :: u127 :: u128 :: u129 :: u130 :: u131 :: u132 :: u133 :: u134 :: u135 :: u136 :: 
      u137 :: u138 :: u139 :: u140 :: u141 :: u142 :: u143 :: u144 :: u145 :: u146 :: u147 :: u148 :: u149 :: u150 :: u151 :: u152 :: u153 :: u154 :: u155 :: u156 :: u157 :: u158 :: u159 :: u160 :: u161 :: u162 :: u163 :: u164 :: u165 :: u166 :: u167 :: u168 :: u169 :: 
      u170 :: u171 :: u172 :: u173 :: (.slice (some ⟨g0, 0, none⟩) l.length cap0) :: (.int .i64 l.length) :: (.int .i64 0) :: u177 :: u178 :: u179 :: u180 :: u181 :: u182 :: u183 :: u184 :: u185 :: u186 :: u187 :: u188 :: u189 :: u190 :: u191 :: u192 :: u193 :: u194 :: 
      u195 :: u196 :: []), []⟩ w := by
  conv => arg 2; arg 1; whnf
  go_loopw [176] (fun kk wr => ∃ (ac : List Bool) (vacc : Value), kk = .int .i64 (ac.length : Int) ∧ ac.length ≤ l.length ∧ Kept wb wr (fun k => k = gb) ∧ BldU wr wb.heap.size gb gm (.int .i64 L) c1 (.func (.func 89) #[] #[cap4, cap5]) (.func (.func 90) #[] #[cap4, cap5]) (.func (.func 91) #[] #[cap6, cap4, cap5]) (.slice (some ⟨g0, 0, none⟩) l.length cap0) l ∧
    MachA wr wb.heap.size gM L vacc vleaf vbr ac lf t ∧ Hid (ac = (l.take ac.length).map acc)) (fun kk _ => l.length - (intOf kk).toNat)
  case atStart => exact ⟨[], _, rfl, Nat.zero_le _, hK, hB, hM, rfl⟩
  case round =>
    obtain ⟨ac, vacc, rfl, hk, hK', hB', hM', hac⟩ := hrel
    obtain ⟨A, c, rfl⟩ := slice_of_own hM'.acc
    have hPP := hide hP
    clear hP
    by_cases hlt : ac.length < l.length
    · obtain ⟨s, hs⟩ : ∃ s, l[ac.length]? = some s := ⟨_, List.getElem?_eq_getElem hlt⟩
      obtain ⟨gg, cc, hgg, hci, hci2⟩ := own_getP hB'.row hs
      injection hgg with hgg _ hcc
      injection hgg with hgg
      injection hgg with hgg
      subst hgg hcc
      obtain ⟨w2, hw2, hb2, hBx, hk2⟩ := box_blk wr #[.int .i64 (s.1 : Int), .int .i64 (s.2 : Int)] 118
      have hB2 := hB'.below hb2
      have hM2 := hM'.keep hk2 (fun _ _ _ h => h.elim)
      have hK2 := hK'.trans hk2 (fun _ _ h => h.elim)
      have hcb := hB2.blk.cell
      have hcm := hM2.blk.cell
      have hcx := hBx.cell
      have hPs := hPP.out s (List.mem_of_getElem? hs)
      have hHs := hide hs
      clear hs
      go_wp2_with fail
      refine Reg.region_cut [0, 0, 2, 6, 14, 0, 32, 96, 224, 0, 992, 2016, 4094, 8191, 16383, 32767] [0, 1, 2, 3, 4, 5, 6, 7, 8, 9, 10, 11, 12, 13, 14, 15] (by kernel_rfl) (by repeat (first | exact hN | refine Reg.NoQ.then ?_ | refine Reg.NoQ.inBlock ?_)) ?_
      refine Reg.rest_walk' [0, 1, 2, 3, 4, 5, 6, 7, 8, 9] [10, 11, 12, 13, 14, 15] rfl (by kernel_rfl) ?_
      intro Qf hQf
      go_wp2_with fail
      rw [List.filterMap_nil]
      go_wp2_with fail
      refine Reg.rest_act' 10 [11, 12, 13, 14, 15] [4] rfl (by kernel_rfl) ?_
      intro Qf hQf
      simp only [List.getElem_toArray, List.getElem_cons_succ, List.getElem_cons_zero]
      go_wp2_with (go_at_call 91; refine Calls.ret (hC.fa _ hK2.drew s hPs) ?_; rintro v w1 ⟨rfl, hb0⟩; have hb1 : Below w2.heap.size w2 w1 := ⟨hb0.os, hb0.tape, hb0.output, hb0.size, hb0.block⟩)
      refine ⟨Reg.same_below hb0 [4] rfl, ?_⟩
      clear hb0
      have hkb : Kept w2 w1 (fun _ => False) := Kept.of_below hb1 _
      have hB1 := hB2.below hb1
      have hM1 := hM2.keep hkb (fun _ _ _ h => h.elim)
      have hK1 := hK2.trans hkb (fun _ _ h => h.elim)
      refine Reg.rest_walk' [11] [12, 13, 14, 15] rfl (by kernel_rfl) ?_
      intro Qf hQf
      go_wp2_with fail
      rw [List.filterMap_nil]
      go_wp2_with fail
      refine Reg.rest_act' 12 [13, 14, 15] [] rfl (by kernel_rfl) ?_
      intro Qf hQf
      simp only [List.getElem_toArray, List.getElem_cons_succ, List.getElem_cons_zero]
      refine wpList_app_new (w := w1) row79 rfl _ _ rfl wb.heap.size (.slice A ac.length c) ac.length _ rfl hM1.acc [.bool (acc s)] 1 rfl rfl (by simp [Value.oneCell']) (by omega) hK1.size ?_
      intro g cap' w3 hown hk3 hmv3 hg3
      have hm3 := hM1.blk.kept hk3 (fun e => own_blk_ne hM1.acc hM1.blk (by decide) e)
      have hcm3 := hm3.cell
      have hfm3 := hm3.frozen
      have hB3 := hB1.other hk3 (fun k hk => by
        obtain ⟨cs, hb⟩ := own_blk hM1.acc hk
        exact ⟨4, cs, hb, by decide, by decide⟩)
      have hK3 := hK1.trans hk3 (fun b hb hx => by have := own_base hM1.acc hx; omega)
      refine hQf _ _ ⟨fun r hr => absurd hr (List.not_mem_nil), ?_⟩
      clear hQf
      refine Reg.rest_walk' [13, 14, 15] [] rfl (by kernel_rfl) ?_
      intro Qf hQf
      go_wp2_with fail
      rw [List.filterMap_nil]
      go_wp2_with fail
      refine Reg.rest_end ?_
      go_wp2_with fail
      have hks := (Kept.refl w3 (fun k => k = gM)).setCell (p := ⟨gM, 1, none⟩) (fun _ => rfl) (.slice (some ⟨g, 0, none⟩) (ac.length + 1) cap')
      have hg82 : ∀ (e : TypeId), e ≠ 82 → ∀ k cs, k = gM → ¬ Blk w3 k e cs := fun e he k cs ek hb => by subst ek; exact hm3.ne_ hb (fun h => he h.symm) rfl
      obtain ⟨us, hu⟩ := hM1.tab.open
      have hu3 := hu.keep hk3 (not_blk hM1.acc (by decide)) (not_blk hM1.acc (by decide)) (fun g hg => own_own_ne hu.own hM1.acc (by decide) hg)
      have hu4 := hu3.keep hks (hg82 3 (by decide)) (hg82 22 (by decide)) (fun k hk ek => hg82 104 (by decide) k _ ek (own_blk hu3.own hk).choose_spec)
      refine ⟨⟨ac ++ [acc s], _, by simp, by simp; omega, hK3.trans hks (fun b hb hx => by omega), hB3.other hks (fun k hk => by subst hk; exact ⟨82, _, hm3, by decide, by decide⟩), ⟨hm3.set_ 1 _, ?_, own_ty hks (own_ty hk3 hM1.lfs (not_blk hM1.acc (by decide))) (hg82 3 (by decide)), hu4.close⟩, ?_⟩, by simp [intOf]; omega⟩
      · have := own_ty hks hown (hg82 4 (by decide))
        simpa using this
      · show ac ++ [acc s] = _
        rw [List.length_append, List.length_singleton, List.take_add_one, hHs.out, List.map_append, ← hac.out]
        rfl
    · have e : ac.length = l.length := by omega
      have he := hide e
      clear e
      have hcb := hB'.blk.cell
      have hcm := hM'.blk.cell
      go_wp2_with fail
      refine hQ _ _ _ _ _ _ _ _ _ _ _ _ _ _ _ _ _ _ _ _ _ wr (.slice A ac.length c) hK' ?_
      rw [he.out, List.take_length] at hac
      have := hac.out
      subst this
      exact hM'
end PB
end Go.Proofs.Ytnimlcbgeiajiaa

namespace Go.Proofs.Ytnimlcbgeiajiaa
open Go.RowKit
namespace PB

set_option maxHeartbeats 4000000 in
set_option maxRecDepth 100000 in
theorem buildU {wb : World} {gb L : Nat} {cap4 cap5 cap6 : Value} {leaf : Nat → Nat × Nat} {br : Nat → Nat × Nat → Nat × Nat → Nat × Nat} {acc : Nat × Nat → Bool} {P : Nat × Nat → Prop} (hC : ClosU wb gb L cap4 cap5 cap6 leaf br acc P)
    (h0 : 0 < L) (hL : L ≤ 8) (hb : Blk wb gb 125 #[.int .i64 L, .int .i64 0, .map none, .slice none 0 0, .func (.func 89) #[] #[cap4, cap5], .func (.func 90) #[] #[cap4, cap5], .func (.func 91) #[] #[cap6, cap4, cap5]]) :
    Calls Try.prog 92 #[.pointer (some ⟨gb, 0, none⟩)] wb (Ret fun v w' => Kept wb w' (fun k => k = gb) ∧ ∃ l : List (Nat × Nat), l.Nodup ∧ (∀ s ∈ l, Reach L leaf br s) ∧ (∀ s ∈ l, P s) ∧
      ∃ gM lf t, v = .pointer (some ⟨gM, 0, none⟩) ∧ wb.heap.size ≤ gM ∧ Mach w' wb.heap.size gM L (l.map acc) lf t ∧ lf.length = L ∧ LeafOK leaf l lf ∧
        TabOK L br l (fun _ => l.length) t ∧ t.length = l.length ∧ l.length ≤ 4096) := by
  obtain ⟨gm, w1, hmk, hmap, hb1, hgm⟩ := mkmap_facts 122 wb
  have hblk1 := hb.kept (Kept.of_below hb1 fun _ => False) id
  have hcb := hblk1.cell
  have hfb := hblk1.frozen
  have hblk2 := hblk1.set_ 2 (.map (some gm))
  have hblk3 : Blk ((w1.setCell ⟨gb, 2, none⟩ (.map (some gm))).alloc (.cells #[.int .i64 L, .slice none 0 0, .slice none 0 0, .slice none 0 0] 82)) gb 125 #[.int .i64 L, .int .i64 0, .map (some gm), .slice none 0 0, .func (.func 89) #[] #[cap4, cap5], .func (.func 90) #[] #[cap4, cap5], .func (.func 91) #[] #[cap6, cap4, cap5]] :=
    hblk2.kept ((Kept.refl _ (fun _ => False)).alloc _) id
  have hcb2 := hblk3.cell 0
  have hgMb : wb.heap.size ≤ w1.heap.size := hb1.size
  have hk1 : Kept wb ((w1.setCell ⟨gb, 2, none⟩ (.map (some gm))).alloc (.cells #[.int .i64 L, .slice none 0 0, .slice none 0 0, .slice none 0 0] 82)) (fun k => k = gb) :=
    ((Kept.of_below hb1 (fun k => k = gb)).setCell (p := ⟨gb, 2, none⟩) (fun _ => rfl) _).alloc _
  have hmap3 : IdxMap ((w1.setCell ⟨gb, 2, none⟩ (.map (some gm))).alloc (.cells #[.int .i64 L, .slice none 0 0, .slice none 0 0, .slice none 0 0] 82)) gm [] :=
    hmap.kept (((Kept.refl w1 (fun k => k = gb)).setCell (p := ⟨gb, 2, none⟩) (fun _ => rfl) _).alloc _) (fun e => blk_map_ne hblk1 hmap e.symm)
  have hB0 : BWU wb ((w1.setCell ⟨gb, 2, none⟩ (.map (some gm))).alloc (.cells #[.int .i64 L, .slice none 0 0, .slice none 0 0, .slice none 0 0] 82)) gb gm w1.heap.size L (.int .i64 0) cap4 cap5 cap6 (.slice none 0 0) (.slice none 0 0) (.slice none 0 0) [] [] [] := by
    refine ⟨hk1, ⟨hblk3, hmap3, own_nil⟩, ?_, own_nil, Tab.nil, hgm, hgMb⟩
    have := Blk.new (w1.setCell ⟨gb, 2, none⟩ (.map (some gm))) 82 #[.int .i64 L, .slice none 0 0, .slice none 0 0, .slice none 0 0]
    simpa using this
  have hgmM : gm ≠ w1.heap.size := by have := hmap.lt; omega
  clear hk1 hmap3 hblk3 hblk2
  go_enter Try.func92, Try.ntmps92
  go_wp2_with fail
  refine bld_leaves hC hL hB0 ?_ ?_
  · repeat (first | exact Reg.NoQ.body (fun _ _ h => h) (fun _ h => h) | refine Reg.NoQ.then ?_ | refine Reg.NoQ.inBlock ?_)
  iterate 24 (intro _)
  intro w2 vl2 vleaf2 l2 lf2 hB2 hn2 hR2 hP2 hl2 hlf2 hLf2
  have hNN := hide hn2
  have hRR := hide hR2
  have hPP := hide hP2
  have hLL := hide hLf2
  have hLl := hide hlf2
  clear hn2 hR2 hP2 hLf2 hlf2 hB0 hcb hcb2 hfb hmk hb
  go_wp2_with fail
  refine bld_rounds hC hL hB2 hNN.out hRR.out hPP.out ?_ ?_
  · repeat (first | exact Reg.NoQ.body (fun _ _ h => h) (fun _ h => h) | refine Reg.NoQ.then ?_ | refine Reg.NoQ.inBlock ?_)
  · iterate 128 (intro _)
    intro w3 vl3 vbr3 l3 t3 hB3 hpre3 hn3 hR3 hP3 hT3 htl3
    have hl3 := hC.plen l3 hn3 hP3
    have hls : 0 < l3.length := by
      have h1 := hLl.out
      obtain ⟨e, he⟩ : ∃ e, lf2[0]? = some e := ⟨_, List.getElem?_eq_getElem (by omega)⟩
      have := lt_of_get (prefix_get hpre3 (hLL.out 0 e he))
      omega
    obtain ⟨s0, hs0⟩ : ∃ s0, l3[0]? = some s0 := ⟨_, List.getElem?_eq_getElem hls⟩
    obtain ⟨g0, cap0, rfl, -⟩ := own_getP hB3.bld.row hs0
    have hcb := hB3.bld.blk.cell
    have hls' := hide hls
    have hH0 := hide hs0
    have hNN3 := hide hn3
    have hRR3 := hide hR3
    have hPP3 := hide hP3
    have hTT3 := hide hT3
    have hTL3 := hide htl3
    have hpp3 := hide hpre3
    clear hs0 hn3 hR3 hP3 hT3 htl3 hpre3 hls
    go_wp2_with fail
    refine bld_accept hC hB3.kept hB3.bld ⟨hB3.mach, own_nil, hB3.lfs, hB3.tab⟩ hB3.gM_ hPP3.out hl3 ?_ ?_
    · repeat (first | exact Reg.NoQ.body (fun _ _ h => h) (fun _ h => h) | refine Reg.NoQ.then ?_ | refine Reg.NoQ.inBlock ?_)
    iterate 21 (intro _)
    intro w4 vacc4 hK4 hM4
    have hMM4 := hide hM4
    clear hM4
    go_wp2_with fail
    go_ret
    exact ⟨hK4, l3, hNN3.out, hRR3.out, hPP3.out, w1.heap.size, lf2, t3, rfl, hgMb, ⟨_, _, _, hMM4.out⟩, hLl.out, hLL.out.grow hpp3.out, hTT3.out, hTL3.out, hl3⟩
end PB
end Go.Proofs.Ytnimlcbgeiajiaa
