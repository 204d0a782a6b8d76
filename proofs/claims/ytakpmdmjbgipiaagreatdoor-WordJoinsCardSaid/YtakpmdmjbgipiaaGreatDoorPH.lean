/-
  Part PH of a proof.
-/
import Derived.Shelf.LaysM
import Derived.Shelf.Sort.Plain
import Derived.Ground.NamesProg
import Derived.Ground.Names2Prog
import Derived.Shelf.Slices.Equal
import Derived.Shelf.Slices.Turned
import Derived.Shelf.Slices.Empties2
import Derived.Test.YtakpmdmjbgipiaaGreatDoorProg
import Derived.Test.YtakpmdmjbgipiaaGreatDoorPA
import Derived.Test.YtakpmdmjbgipiaaGreatDoorPG
set_option maxHeartbeats 16000000
set_option maxRecDepth 100000
set_option linter.unusedVariables false
set_option linter.unusedSimpArgs false
namespace Go.Proofs
open Go.Shelf
def Tryz.lays108_ren : Go.Shelf.Ren := ⟨fun | 108 => 98 | n => n, fun | 28 => 22 | 3 => 3 | 0 => 0 | 4 => 4 | n => n, fun | n => n⟩
theorem Tryz.lays108 : Go.Proofs.Lays.n108 Tryz.prog Tryz.lays108_ren := {
 mixed := by kernel_rfl
 f108 := Tryz.func98.trans (congrArg some (by kernel_rfl))
 t0 := Tryz.underlying0
 a0 := Tryz.isAgg0
 z0 := Tryz.sizeOf0
 v0 := Tryz.zeroValue0
 t3 := Tryz.underlying3
 a3 := Tryz.isAgg3
 z3 := Tryz.sizeOf3
 v3 := Tryz.zeroValue3
 t4 := Tryz.underlying4
 a4 := Tryz.isAgg4
 z4 := Tryz.sizeOf4
 v4 := Tryz.zeroValue4
 t28 := Tryz.underlying22
 a28 := Tryz.isAgg22
 z28 := Tryz.sizeOf22
 v28 := Tryz.zeroValue22 }
open Go.Lib in
theorem Tryz.slices_Index_int (b off n c : Nat) (zs : List Int) (x : Int) (w : World) (hz : n ≤ zs.length) (hbig : n ≤ 9223372036854775807) (hc : ∀ j, j < zs.length → w.cell? ⟨b, off + j, none⟩ = some (.int .i64 (zs.getD j 0))) :
  Calls Tryz.prog 98 #[.slice (some ⟨b, off, none⟩) n c, .int .i64 x] w fun e w' => e = .returned (.int .i64 (Lib.idxOf (zs.take n) x)) ∧ w' = w := Any.slices_Index_int Tryz.lays108 b off n c zs x w hz hbig hc
open Go.Lib in
theorem Tryz.slices_Index_int_empty (a : Option Addr) (c : Nat) (x : Int) (w : World) :
  Calls Tryz.prog 98 #[.slice a 0 c, .int .i64 x] w fun e w' => e = .returned (.int .i64 (Lib.idxOf [] x)) ∧ w' = w := Any.slices_Index_int_empty Tryz.lays108 a c x w
def Tryz.lays107_ren : Go.Shelf.Ren := ⟨fun | 107 => 85 | 108 => 98 | n => n, fun | 28 => 22 | 3 => 3 | 4 => 4 | 0 => 0 | n => n, fun | n => n⟩
theorem Tryz.lays107 : Go.Proofs.Lays.n107 Tryz.prog Tryz.lays107_ren := {
 mixed := by kernel_rfl
 f107 := Tryz.func85.trans (congrArg some (by kernel_rfl))
 f108 := Tryz.func98.trans (congrArg some (by kernel_rfl))
 t0 := Tryz.underlying0
 a0 := Tryz.isAgg0
 z0 := Tryz.sizeOf0
 v0 := Tryz.zeroValue0
 t3 := Tryz.underlying3
 a3 := Tryz.isAgg3
 z3 := Tryz.sizeOf3
 v3 := Tryz.zeroValue3
 t4 := Tryz.underlying4
 a4 := Tryz.isAgg4
 z4 := Tryz.sizeOf4
 v4 := Tryz.zeroValue4
 t28 := Tryz.underlying22
 a28 := Tryz.isAgg22
 z28 := Tryz.sizeOf22
 v28 := Tryz.zeroValue22 }
open Go.Lib in
theorem Tryz.slices_Contains_int (b off n c : Nat) (zs : List Int) (x : Int) (w : World) (hz : n ≤ zs.length) (hbig : n ≤ 9223372036854775807) (hc : ∀ j, j < zs.length → w.cell? ⟨b, off + j, none⟩ = some (.int .i64 (zs.getD j 0))) :
  Calls Tryz.prog 85 #[.slice (some ⟨b, off, none⟩) n c, .int .i64 x] w fun e w' => e = .returned (.bool ((zs.take n).contains x)) ∧ w' = w := Any.slices_Contains_int Tryz.lays107 b off n c zs x w hz hbig hc
open Go.Lib in
theorem Tryz.slices_Contains_int_empty (a : Option Addr) (c : Nat) (x : Int) (w : World) :
  Calls Tryz.prog 85 #[.slice a 0 c, .int .i64 x] w fun e w' => e = .returned (.bool false) ∧ w' = w := Any.slices_Contains_int_empty Tryz.lays107 a c x w
def Tryz.lays111_ren : Go.Shelf.Ren := ⟨fun | 111 => 70 | n => n, fun | 28 => 22 | 3 => 3 | 4 => 4 | 0 => 0 | n => n, fun | n => n⟩
theorem Tryz.lays111 : Go.Proofs.Lays.n111 Tryz.prog Tryz.lays111_ren := {
 mixed := by kernel_rfl
 f111 := Tryz.func70.trans (congrArg some (by kernel_rfl))
 t0 := Tryz.underlying0
 a0 := Tryz.isAgg0
 z0 := Tryz.sizeOf0
 v0 := Tryz.zeroValue0
 t3 := Tryz.underlying3
 a3 := Tryz.isAgg3
 z3 := Tryz.sizeOf3
 v3 := Tryz.zeroValue3
 t4 := Tryz.underlying4
 a4 := Tryz.isAgg4
 z4 := Tryz.sizeOf4
 v4 := Tryz.zeroValue4
 t28 := Tryz.underlying22
 a28 := Tryz.isAgg22
 z28 := Tryz.sizeOf22
 v28 := Tryz.zeroValue22 }
open Go.RowKit Go.Lib in
theorem Tryz.slices_Equal_int (b1 o1 n c b2 o2 m d : Nat) (xs ys : List Int) (w : World) (hx : n ≤ xs.length) (hy : m ≤ ys.length) (hbig : n ≤ 9223372036854775807) (hbig2 : m ≤ 9223372036854775807) (hc1 : ∀ j, j < xs.length → w.cell? ⟨b1, o1 + j, none⟩ = some (.int .i64 (xs.getD j 0))) (hc2 : ∀ j, j < ys.length → w.cell? ⟨b2, o2 + j, none⟩ = some (.int .i64 (ys.getD j 0))) :
  Calls Tryz.prog 70 #[.slice (some ⟨b1, o1, none⟩) n c, .slice (some ⟨b2, o2, none⟩) m d] w fun e w' => e = .returned (.bool (xs.take n == ys.take m)) ∧ ∃ q, w' = w.drewN q := Any.slices_Equal_int Tryz.lays111 b1 o1 n c b2 o2 m d xs ys w hx hy hbig hbig2 hc1 hc2
open Go.RowKit Go.Lib in
theorem Tryz.slices_Equal_int_empty (a1 a2 : Option Addr) (c m d : Nat) (w : World) (hbig2 : m ≤ 9223372036854775807) :
  Calls Tryz.prog 70 #[.slice a1 0 c, .slice a2 m d] w fun e w' => e = .returned (.bool (decide (m = 0))) ∧ w' = w := Any.slices_Equal_int_empty Tryz.lays111 a1 a2 c m d w hbig2
open Go.RowKit Go.Lib in
theorem Tryz.slices_Equal_int_lens (a1 a2 : Option Addr) (n c m d : Nat) (w : World) (hnm : n ≠ m) :
  Calls Tryz.prog 70 #[.slice a1 n c, .slice a2 m d] w fun e w' => e = .returned (.bool false) ∧ w' = w := Any.slices_Equal_int_lens Tryz.lays111 a1 a2 n c m d w hnm
end Go.Proofs
namespace Go.Proofs.YtakpmdmjbgipiaaGreatDoor
open Go.RowKit
set_option maxHeartbeats 16000000
set_option maxRecDepth 100000
section
variable {S : Type} [DecidableEq S]
def dd (l : List S) : List S := l.foldl meetL []
theorem dd_snoc (l : List S) (a : S) : dd (l ++ [a]) = meetL (dd l) a := by simp [dd, List.foldl_append]
theorem mem_meet {l : List S} {a b : S} : a ∈ meetL l b ↔ a ∈ l ∨ a = b := by
 unfold meetL
 split
 ·constructor
  ·exact .inl
  ·rintro (h | rfl)
   ·exact h
   ·assumption
 ·simp
theorem nodup_meet {l : List S} (h : l.Nodup) (a : S) : (meetL l a).Nodup := by
 unfold meetL
 split
 ·exact h
 ·rename_i hn
  exact List.nodup_append.2 ⟨h, by simp, fun x hx y hy e => hn (by rw [List.mem_singleton] at hy; rw [← hy, ← e]; exact hx)⟩
theorem dd_ind (p : List S → Prop) (h0 : p []) (hs : ∀ l a, p l → p (meetL l a)) (l : List S) : p (dd l) := by
 have : ∀ (l k : List S), p k → p (l.foldl meetL k) := by
  intro l
  induction l with
  | nil => exact fun _ h => h
  | cons a l ih => exact fun k h => ih _ (hs _ _ h)
 exact this l [] h0
theorem nodup_dd (l : List S) : (dd l).Nodup := dd_ind List.Nodup List.nodup_nil (fun _ a h => nodup_meet h a) l
theorem mem_dd {l : List S} {a : S} : a ∈ dd l ↔ a ∈ l := by
 have : ∀ (l k : List S), a ∈ l.foldl meetL k ↔ a ∈ k ∨ a ∈ l := by
  intro l
  induction l with
  | nil => simp
  | cons b l ih =>
   intro k
   rw [List.foldl_cons, ih, mem_meet, List.mem_cons, or_assoc]
 exact (this l []).trans (by simp)
theorem posL_lt {l : List S} {a : S} (h : a ∈ l) : posL l a < l.length := List.idxOf_lt_length_of_mem h
theorem posL_get {l : List S} {a : S} (h : a ∈ l) : l[posL l a]? = some a := idxOf_get h
theorem posL_inj {l : List S} {a b : S} (ha : a ∈ l) (hb : b ∈ l) (h : posL l a = posL l b) : a = b := by
 have h1 := posL_get ha
 rw [h, posL_get hb] at h1
 exact (Option.some.inj h1).symm
theorem posL_at {l : List S} (h : l.Nodup) {i : Nat} {a : S} (hi : l[i]? = some a) : posL l a = i := nodup_idxOf h hi
def cRow (l : List S) : List Nat := l.map (posL (dd l))
theorem cRow_len (l : List S) : (cRow l).length = l.length := by simp [cRow]
theorem cRow_snoc (l : List S) (a : S) : cRow (l ++ [a]) = cRow l ++ [posL (meetL (dd l) a) a] := by
 unfold cRow
 rw [List.map_append, dd_snoc]
 congr 1
 exact List.map_congr_left fun x hx => pos_pre (prefix_meetL _ _) (mem_dd.2 hx)
theorem cRow_get {l : List S} {i : Nat} {a : S} (h : l[i]? = some a) : (cRow l).getD i 0 = posL (dd l) a := getD_some (map_get h)
theorem cRow_eq {l : List S} {i j : Nat} {a b : S} (ha : l[i]? = some a) (hb : l[j]? = some b) : (cRow l).getD i 0 = (cRow l).getD j 0 ↔ a = b := by
 rw [cRow_get ha, cRow_get hb]
 exact ⟨posL_inj (mem_dd.2 (List.mem_of_getElem? ha)) (mem_dd.2 (List.mem_of_getElem? hb)), fun h => by rw [h]⟩
theorem cRow_mem {l : List S} {v : Nat} : v ∈ cRow l ↔ v < (dd l).length := by
 unfold cRow
 rw [List.mem_map]
 constructor
 ·rintro ⟨a, ha, rfl⟩
  exact posL_lt (mem_dd.2 ha)
 ·intro h
  obtain ⟨a, ha⟩ := get_lt h
  exact ⟨a, mem_dd.1 (List.mem_of_getElem? ha), posL_at (nodup_dd l) ha⟩
theorem dd_len (l : List S) : (dd l).length ≤ l.length := by
 have : ∀ (l k : List S), (l.foldl meetL k).length ≤ k.length + l.length := by
  intro l
  induction l with
  | nil => simp
  | cons b l ih =>
   intro k
   have h1 := ih (meetL k b)
   have h2 : (meetL k b).length ≤ k.length + 1 := by unfold meetL; split <;> simp
   rw [List.foldl_cons, List.length_cons]
   omega
 exact Nat.le_trans (this l []) (by simp)
theorem ClsAt.of_keys {L n r : Nat} {nx : Nat → Nat → Nat} {acc : Nat → Bool} {ks : List S} (hn : ks.length = n) (h : ∀ i j x y, ks[i]? = some x → ks[j]? = some y → (x = y ↔ EqW L nx acc r i j)) : ClsAt L n nx acc r (cRow ks) (dd ks).length := by
 refine ⟨by rw [cRow_len, hn], fun i j hi hj => ?_, fun v => cRow_mem⟩
 obtain ⟨x, hx⟩ := get_lt (l := ks) (i := i) (by omega)
 obtain ⟨y, hy⟩ := get_lt (l := ks) (i := j) (by omega)
 rw [cRow_eq hx hy]
 exact h i j x y hx hy
end
theorem outs_cls (L : Nat) (nx : Nat → Nat → Nat) (ac : List Bool) : ClsAt L ac.length nx (dac ac) 0 (cRow ac) (dd ac).length := by
 refine ClsAt.of_keys rfl fun i j x y hx hy => ?_
 show x = y ↔ dac ac i = dac ac j
 unfold dac
 rw [getD_some hx, getD_some hy]
def keyR (L : Nat) (nx : Nat → Nat → Nat) (cl : List Nat) (q : Nat) : List Nat := cl.getD q 0 :: (List.range L).map fun x => cl.getD (nx q x) 0
theorem split_cls {L n r cnt : Nat} {nx : Nat → Nat → Nat} {acc : Nat → Bool} {cl : List Nat} (hM : ∀ q x, q < n → x < L → nx q x < n) (h : ClsAt L n nx acc r cl cnt) : ClsAt L n nx acc (r + 1) (cRow ((List.range n).map (keyR L nx cl))) (dd ((List.range n).map (keyR L nx cl))).length := by
 refine ClsAt.of_keys (by simp) fun i j x y hx hy => ?_
 have hi : i < n := by simpa using lt_of_get hx
 have hj : j < n := by simpa using lt_of_get hy
 rw [map_get (List.getElem?_range hi)] at hx
 rw [map_get (List.getElem?_range hj)] at hy
 have ex := Option.some.inj hx
 have ey := Option.some.inj hy
 subst ex ey
 unfold keyR
 rw [List.cons.injEq, h.iff i j hi hj]
 show _ ↔ EqW L nx acc r i j ∧ ∀ z, z < L → EqW L nx acc r (nx i z) (nx j z)
 refine and_congr_right fun _ => ?_
 rw [List.map_inj_left]
 simp only [List.mem_range]
 exact forall_congr' fun z => forall_congr' fun hz => h.iff _ _ (hM i z hi hz) (hM j z hj hz)
def encN (n : Nat) : Value := .int .i64 (n : Int)
def fillC (L : Nat) (row : List Nat) : Array Value := (row.map encN ++ List.replicate (L - row.length) (Value.int .i64 0)).toArray
theorem fillC_set {L : Nat} {row : List Nat} (h : row.length < L) (e : Nat) : (fillC L row).setIfInBounds row.length (.int .i64 e) = fillC L (row ++ [e]) := by
 have h2 : List.replicate (L - row.length) (Value.int .i64 0) = .int .i64 0 :: List.replicate (L - (row.length + 1)) (.int .i64 0) := by
  rw [← List.replicate_succ]; congr 1; omega
 unfold fillC
 rw [h2]
 simp [encN]
theorem fillC_get {L : Nat} {row : List Nat} (h : row.length < L) : (fillC L row)[row.length]? = some (.int .i64 0) := by
 unfold fillC
 simp
 rw [List.getElem?_append_right (by simp), List.getElem?_replicate]
 simp; omega
theorem fillC_nil (L : Nat) : Array.replicate L (Value.int .i64 0) = fillC L [] := by
 apply Array.ext'
 simp [fillC]
theorem fillC_own {w : World} {base g L : Nat} {row : List Nat} (h : Blk w g 3 (fillC L row)) (hl : row.length = L) (hb : base ≤ g) (hL : L ≤ 4000000) : w.ownsRow base 3 1 (.slice (some ⟨g, 0, none⟩) L L) L ((natL row).map (Value.int .i64)) := by
 have h1 := own_of_blk (n := L) h hb (by simp [fillC]; omega) hL
 have h2 : (fillC L row).toList = (natL row).map (Value.int .i64) := by simp [fillC, hl, natL, encN]
 rwa [h2] at h1
theorem fillC_sl {w : World} {g L : Nat} {row : List Nat} (h : Blk w g 3 (fillC L row)) (hl : row.length = L) (hL : L ≤ 4000000) : Sl w w.heap.size 1 encI (some ⟨g, 0, none⟩) (natL row) := by
 have ho := fillC_own (base := 0) h hl (Nat.zero_le _) hL
 obtain ⟨A, c, e, hS⟩ := own_slI ho (by simp [natL, hl]) (Nat.le_refl _) (by omega)
 injection e with e1 e2 e3
 subst e1
 exact hS
theorem sl_natat {w : World} {B : Nat} {A : Option Addr} {l : List Nat} (h : Sl w B 1 encI A (natL l)) {i x : Nat} (hi : l[i]? = some x) : ∃ b off, A = some ⟨b, off, none⟩ ∧ b < B ∧ w.cell? ⟨b, off + i, none⟩ = some (.int .i64 (x : Int)) := by
 obtain ⟨b, off, e, hb, hc⟩ := h.2 (by
  intro e
  have := lt_of_get hi
  have h2 : (natL l).length = l.length := by simp [natL]
  rw [e] at h2
  simp at h2
  omega)
 have := hc i (x : Int) (map_get hi) 0 (by omega)
 exact ⟨b, off, e, hb, by simpa [encI] using this⟩
theorem sl_boolat {w : World} {B : Nat} {A : Option Addr} {l : List Bool} (h : Sl w B 1 encB A l) {i : Nat} {x : Bool} (hi : l[i]? = some x) : ∃ b off, A = some ⟨b, off, none⟩ ∧ b < B ∧ w.cell? ⟨b, off + i, none⟩ = some (.bool x) := by
 obtain ⟨b, off, e, hb, hc⟩ := h.2 (by
  intro e
  have := lt_of_get hi
  rw [e] at this
  simp at this)
 have := hc i x hi 0 (by omega)
 exact ⟨b, off, e, hb, by simpa [encB] using this⟩
theorem findNow_bool (s : Bool) (es : List MapEntry) : ∀ (l : List Bool) (i : Nat), es.map (·.key) = l.map Value.bool →
  Instr.findNow .bool (.bool s) es i = some (if s ∈ l then some (i + l.idxOf s, ((es[l.idxOf s]?).map (·.val)).getD .nilFunc) else none) := by
 induction es with
 | nil =>
  intro l i h
  have : l = [] := by cases l <;> simp_all
  subst this
  simp [Instr.findNow]
 | cons e es ih =>
  intro l i h
  cases l with
  | nil => simp at h
  | cons t l =>
   simp only [List.map_cons, List.cons.injEq] at h
   obtain ⟨h1, h2⟩ := h
   unfold Instr.findNow
   rw [h1]
   simp only [Instr.sameNow]
   by_cases hst : s = t
   ·subst hst
    simp
   ·have hne : (s == t) = false := by simpa using hst
    rw [hne]
    dsimp only
    rw [ih l (i + 1) h2]
    have hidx : (t :: l).idxOf s = l.idxOf s + 1 := by
     rw [List.idxOf_cons]
     have : (t == s) = false := by simpa using fun e => hst e.symm
     rw [this]; rfl
    by_cases hsl : s ∈ l
    ·simp only [hsl, hidx, List.mem_cons, or_true, if_true, List.getElem?_cons_succ, Option.some.injEq, Prod.mk.injEq, and_true]; omega
    ·simp [hsl, hst]
theorem keyB4 : KeyOK Tryz.prog 4 Value.bool where
 check := fun em w s => by
  rw [show (10000 : Nat) = 9999 + 1 from rfl]
  unfold Instr.checkKey
  simp [run_underlying Tryz.underlying4]
 find := fun w s es l h => by
  unfold Instr.findKey
  simp only [Sem.run_bind, run_underlying Tryz.underlying4, Result.andThen_ok]
  rw [findNow_bool s es l 0 h]
  simp
theorem run_idx_look {S : Type} [DecidableEq S] {P : Program} {K : TypeId} {enc : S → Value} (hk : KeyOK P K enc) {T E : TypeId} (hT : P.underlying T = some (.map K E)) {w : World} {g : Nat} {l : List S}
  (h : IdxMap w g (l.map enc)) {s : S} (hs : s ∈ l) :
  (Instr.lookup T (.map (some g)) (enc s) false).run P w = .ok (.int .i64 (posL l s : Int)) w := by
 obtain ⟨es, clock, h1, h2, h3⟩ := h
 have hg : (getObj g).run P w = .ok (.map es clock) w := by simp [getObj, Sem.run, h1]
 have hf := hk.find w s es.toList l h2
 unfold Instr.lookup
 simp only [Sem.run_bind, run_underlying hT, Result.andThen_ok, hg, Sem.run_pure, hk.check, hf]
 simp only [hs, if_true]
 rw [idx_val h3 (by rw [List.length_map]; exact List.idxOf_lt_length_of_mem hs)]
 rfl
theorem run_idx_len {P : Program} {T K E ty : TypeId} (hT : P.underlying T = some (.map K E)) {w : World} {g : Nat} {ks : List Value} (h : IdxMap w g ks) :
  (Builtin.len_ #[T] ty #[.map (some g)]).run P w = .ok (.int .i64 (ks.length : Int)) w := by
 obtain ⟨es, clock, h1, h2, h3⟩ := h
 have hg : (getObj g).run P w = .ok (.map es clock) w := by simp [getObj, Sem.run, h1]
 have hl : es.size = ks.length := by rw [← h2]; simp
 simp [Builtin.len_, run_underlying hT, hg, goInt, hl]
theorem cls_put {S : Type} [DecidableEq S] {enc : S → Value} {w : World} {gm gr n k : Nat} {l : List S} {a : S} {d : List S} (hd : dd (l ++ [a]) = d) (hM : IdxMap w gm (d.map enc)) (hR : Blk w gr 3 (fillC n (cRow l))) (hk : l.length = k) (hl : k < n) :
  IdxMap (w.setCell ⟨gr, k, none⟩ (.int .i64 (posL d a : Int))) gm ((dd (l ++ [a])).map enc) ∧ Blk (w.setCell ⟨gr, k, none⟩ (.int .i64 (posL d a : Int))) gr 3 (fillC n (cRow (l ++ [a]))) ∧ Kept w (w.setCell ⟨gr, k, none⟩ (.int .i64 (posL d a : Int))) (fun b => b = gr) := by
 have hkk := (Kept.refl w (fun b => b = gr)).setCell (p := ⟨gr, k, none⟩) (fun _ => rfl) (.int .i64 (posL d a : Int))
 refine ⟨?_, ?_, hkk⟩
 ·rw [hd]
  exact hM.kept hkk fun e => blk_map_ne hR hM e.symm
 ·have h1 := hR.set_ k (.int .i64 (posL d a : Int))
  have h2 : (cRow l).length = k := by rw [cRow_len, hk]
  have h3 : posL (meetL (dd l) a) a = posL d a := by rw [← hd, dd_snoc]
  rw [cRow_snoc, h3, ← fillC_set (by omega), h2]
  exact h1
theorem outputs_any {w : World} {v : Value} {t : List (List Nat)} {ac : List Bool} (h : IsDF w w.heap.size v t ac) (hl : ac.length ≤ 250000) :
  Calls Tryz.prog 55 #[v] w (Ret fun r w' => Below w.heap.size w w' ∧ ∃ A c, r = .tuple #[.slice A ac.length c, .int .i64 ((dd ac).length : Int)] ∧ Sl w' w'.heap.size 1 encI A (natL (cRow ac))) := by
 obtain ⟨A1, c1, A2, c2, rfl, h1, h2⟩ := h
 obtain ⟨w1, hw1, hb1, hB1, hk1⟩ := box_blk w #[.slice A1 t.length c1, .slice A2 ac.length c2] 52
 obtain ⟨gr, w2, hmk, hbl, hb2, hgr⟩ := mk_ints w1 ac.length (by omega)
 obtain ⟨gm, w3, hmp, hmap, hb3, hgm⟩ := mk_map 135 w2
 rw [fillC_nil] at hbl
 have hc1 := hB1.cell
 have hc3 := ((hB1.below hb2).below hb3).cell
 have hs1 := hb1.size
 have hs2 := hb2.size
 have hb03 : Below w.heap.size w w3 := hb1.trans ((hb2.mono hs1).trans (hb3.mono (by omega)))
 have hM0 := hide (show IdxMap w3 gm ((dd (ac.take 0)).map Value.bool) from hmap)
 have hR0 := hide (show Blk w3 gr 3 (fillC ac.length (cRow (ac.take 0))) from hbl.below hb3)
 obtain ⟨n, hn⟩ : ∃ n, n = ac.length := ⟨_, rfl⟩
 have hnH := hide hn
 have hn9 : n ≤ 250000 := by omega
 have h2H := hide h2
 rw [← hn] at hmk hc1 hc3 hw1 hR0 ⊢
 have hgr0 : w.heap.size ≤ gr := by omega
 have hgm0 : w.heap.size ≤ gm := by omega
 clear hmap hbl hk1 h1 h2 hn hgr hgm hb1 hb2 hb3
 go_enter Tryz.func55, Tryz.ntmps55
 go_wp2_with fail
 go_loopw [18] (fun ii wr => ∃ k : Nat, ii = .int .i64 (k : Int) ∧ k ≤ n ∧ Below w.heap.size w wr ∧ Hid (IdxMap wr gm ((dd (ac.take k)).map Value.bool)) ∧ Hid (Blk wr gr 3 (fillC n (cRow (ac.take k))))) (fun ii _ => n - (intOf ii).toNat)
 case atStart => exact ⟨0, rfl, Nat.zero_le _, hb03, hM0, hR0⟩
 case round =>
  obtain ⟨k, rfl, hk, hB, hM, hR⟩ := hrel
  by_cases hkn : k < n
  ·have hnl := hnH.out
   obtain ⟨b, hb⟩ := get_lt (l := ac) (i := k) (by omega)
   obtain ⟨blk, off, rfl, hbB, hcb0⟩ := sl_boolat h2H.out hb
   have hcb : wr.cell? ⟨blk, off + k, none⟩ = some (.bool b) := (hB.cell hbB).trans hcb0
   have htk := hide (take_snoc hb)
   have hlt : (ac.take k).length = k := by rw [List.length_take]; omega
   have hln : ((dd (ac.take k)).map Value.bool).length = (dd (ac.take k)).length := by simp
   have hMM := hM.out
   have hRR := hR.out
   have hlk := run_idx_lookup keyB4 Tryz.underlying135 zero3 hMM b
   have hcr : wr.cell? ⟨gr, k, none⟩ = some (.int .i64 0) := by
    rw [hRR.cell]
    have := fillC_get (L := n) (row := cRow (ac.take k)) (by rw [cRow_len, hlt]; exact hkn)
    rwa [cRow_len, hlt] at this
   have hfr := hRR.frozen k
   have hlr := hRR.lt
   by_cases hs : b ∈ dd (ac.take k)
   ·have hdd : dd (ac.take k ++ [b]) = dd (ac.take k) := by rw [dd_snoc]; exact meet_old hs
    have hlk2 := run_idx_look keyB4 Tryz.underlying135 hMM hs
    simp only [hs, if_true, decide_true] at hlk
    obtain ⟨hm2, hr2, hk2⟩ := cls_put hdd hMM hRR hlt hkn
    rw [← htk.out] at hm2 hr2
    have hm2H := hide hm2
    have hr2H := hide hr2
    have hB2 := hB.trans (hk2.below hB.size fun b hb e => by omega)
    clear hm2 hr2 hs hMM hRR hdd hb hcb0 hnl hlt hln hk2
    go_wp2_with fail
    exact ⟨⟨k + 1, by go_num, by omega, hB2, hm2H, hr2H⟩, by simp [intOf]; omega⟩
   ·have hdd : dd (ac.take k ++ [b]) = dd (ac.take k) ++ [b] := by rw [dd_snoc]; exact meet_new hs
    simp only [hs, if_false, decide_false] at hlk
    obtain ⟨w4, hup, hm4, hg4, hs4⟩ := run_idx_store keyB4 Tryz.underlying135 hMM b hs
    have hle : ∀ ty, (Builtin.len_ #[135] ty #[.map (some gm)]).run Tryz.prog wr = .ok (.int .i64 ((dd (ac.take k)).length : Int)) wr := fun ty => by
     have := run_idx_len (ty := ty) Tryz.underlying135 hMM
     simpa using this
    have hk4 := Kept.of_grown hg4
    have hr4 := hRR.kept hk4 (fun e => blk_map_ne hRR hMM (Option.some.inj e).symm)
    have hlk2 := run_idx_look keyB4 Tryz.underlying135 hm4 (s := b) (by simp)
    have hcr4 : w4.cell? ⟨gr, k, none⟩ = some (.int .i64 0) := by rw [hr4.cell, ← hRR.cell, hcr]
    have hfr4 := hr4.frozen k
    have hlr4 := hr4.lt
    obtain ⟨hm2, hr2, hk2⟩ := cls_put hdd hm4 hr4 hlt hkn
    rw [← htk.out] at hm2 hr2
    have hm2H := hide hm2
    have hr2H := hide hr2
    have hB4 := hB.trans (hk4.below hB.size fun b hb e => by have := Option.some.inj e; omega)
    have hB2 := hB4.trans (hk2.below hB4.size fun b hb e => by omega)
    clear hm2 hr2 hs hMM hRR hdd hb hcb0 hnl hlt hln hm4 hg4 hs4 hk4 hr4 hk2
    go_wp2_with fail
    exact ⟨⟨k + 1, by go_num, by omega, hB2, hm2H, hr2H⟩, by simp [intOf]; omega⟩
  ·obtain rfl : k = n := by omega
   have hMM := hM.out
   have hRR := hR.out
   have hle : ∀ ty, (Builtin.len_ #[135] ty #[.map (some gm)]).run Tryz.prog wr = .ok (.int .i64 ((dd (ac.take k)).length : Int)) wr := fun ty => by
    have := run_idx_len (ty := ty) Tryz.underlying135 hMM
    simpa using this
   clear hMM hRR
   go_wp2_with fail
   go_ret2
   have hnl := hnH.out
   have hta : ac.take k = ac := by rw [hnl, List.take_length]
   have hRR := hR.out
   rw [hta] at hRR ⊢
   exact ⟨hB, _, _, rfl, fillC_sl hRR (by rw [cRow_len, hnl]) (by omega)⟩
end Go.Proofs.YtakpmdmjbgipiaaGreatDoor
namespace Go.Proofs.YtakpmdmjbgipiaaGreatDoor
open Go.RowKit
set_option maxHeartbeats 16000000
set_option maxRecDepth 100000
theorem cls_put2 {S : Type} [DecidableEq S] {enc : S → Value} {w : World} {gm gr n k : Nat} {l : List S} {a : S} {d : List S} {u : Value} (hd : dd (l ++ [a]) = d) (hM : IdxMap w gm (d.map enc)) (hR : Blk w gr 3 ((fillC n (cRow l)).setIfInBounds k u)) (hk : l.length = k) (hl : k < n) :
  IdxMap (w.setCell ⟨gr, k, none⟩ (.int .i64 (posL d a : Int))) gm ((dd (l ++ [a])).map enc) ∧ Blk (w.setCell ⟨gr, k, none⟩ (.int .i64 (posL d a : Int))) gr 3 (fillC n (cRow (l ++ [a]))) ∧ Kept w (w.setCell ⟨gr, k, none⟩ (.int .i64 (posL d a : Int))) (fun b => b = gr) := by
 have hkk := (Kept.refl w (fun b => b = gr)).setCell (p := ⟨gr, k, none⟩) (fun _ => rfl) (.int .i64 (posL d a : Int))
 refine ⟨?_, ?_, hkk⟩
 ·rw [hd]
  exact hM.kept hkk fun e => blk_map_ne hR hM e.symm
 ·have h1 := hR.set_ k (.int .i64 (posL d a : Int))
  have h2 : (cRow l).length = k := by rw [cRow_len, hk]
  have h3 : posL (meetL (dd l) a) a = posL d a := by rw [← hd, dd_snoc]
  rw [Array.setIfInBounds_setIfInBounds] at h1
  rw [cRow_snoc, h3, ← fillC_set (by omega), h2]
  exact h1
theorem df_row {w : World} {B : Nat} {A : Option Addr} {L : Nat} {t : List (List Nat)} {ac : List Bool} (h : VSl R1n w B A t) (hok : DOK L t ac) {q : Nat} (hq : q < ac.length) :
  ∃ b off Ar cr row, A = some ⟨b, off, none⟩ ∧ b < B ∧ w.cell? ⟨b, off + q, none⟩ = some (.slice Ar L cr) ∧ t[q]? = some row ∧ row.length = L ∧ Sl w B 1 encI Ar (natL row) ∧ (∀ x y, row[x]? = some y → y < ac.length ∧ dnx t q x = y) := by
 obtain ⟨row, hr⟩ := get_lt (l := t) (i := q) (by rw [hok.len]; exact hq)
 obtain ⟨hl, hy⟩ := hok.row row (List.mem_of_getElem? hr)
 obtain ⟨b, off, e, hb, hc⟩ := h.2 (by intro e; subst e; simp at hr)
 obtain ⟨v, hv, A', c', rfl, hS⟩ := hc q row hr
 have e2 : (natL row).length = L := by simp [natL, hl]
 rw [e2] at hv
 refine ⟨b, off, A', c', row, e, hb, hv, hr, hl, hS, fun x y hx => ⟨hy y (List.mem_of_getElem? hx), ?_⟩⟩
 unfold dnx
 rw [getD_some hr, getD_some hx]
theorem sl_natcell {w : World} {B b off : Nat} {l : List Nat} (h : Sl w B 1 encI (some ⟨b, off, none⟩) (natL l)) {i x : Nat} (hi : l[i]? = some x) : b < B ∧ w.cell? ⟨b, off + i, none⟩ = some (.int .i64 (x : Int)) := by
 obtain ⟨b', off', e, hb, hc⟩ := sl_natat h hi
 cases e
 exact ⟨hb, hc⟩
theorem own_cells {w : World} {base n : Nat} {v : Value} {l : List Nat} (h : w.ownsRow base 3 1 v n ((natL l).map (Value.int .i64))) (hn : l.length = n) (h0 : 0 < n) (hm : n ≤ 4000000) :
  ∃ g c, v = .slice (some ⟨g, 0, none⟩) n c ∧ Sl w w.heap.size 1 encI (some ⟨g, 0, none⟩) (natL l) ∧ ∀ j, j < (natL l).length → w.cell? ⟨g, 0 + j, none⟩ = some (.int .i64 ((natL l).getD j 0)) := by
 obtain ⟨x, hx⟩ := get_lt (l := l) (i := 0) (by omega)
 obtain ⟨g, c, rfl, -⟩ := own_get h (map_get (f := Value.int .i64) (map_get (f := fun x : Nat => (x : Int)) hx))
 obtain ⟨A, c', e, hS⟩ := own_slI h (by simp [natL, hn]) (Nat.le_refl _) (by omega)
 injection e with e1 e2 e3
 subst e1
 refine ⟨g, c, rfl, hS, fun j hj => ?_⟩
 have e2 : (natL l).length = l.length := by simp [natL]
 obtain ⟨y, hy⟩ := get_lt (l := l) (i := j) (by omega)
 rw [(sl_natcell hS hy).2, show (natL l).getD j 0 = (y : Int) from getD_some (map_get (f := fun x : Nat => (x : Int)) hy)]
def keyJ (cl row : List Nat) (q j : Nat) : List Nat := cl.getD q 0 :: (row.take j).map fun y => cl.getD y 0
theorem keyJ_all {L : Nat} {t : List (List Nat)} {cl row : List Nat} {q : Nat} (hl : row.length = L) (hr : ∀ x y, row[x]? = some y → dnx t q x = y) : keyJ cl row q L = keyR L (dnx t) cl q := by
 unfold keyJ keyR
 congr 1
 apply List.ext_getElem?
 intro i
 rw [List.getElem?_map, List.getElem?_map, List.getElem?_take]
 by_cases hi : i < L
 ·obtain ⟨y, hy⟩ := get_lt (l := row) (i := i) (by omega)
  rw [if_pos hi, hy, List.getElem?_range hi]
  simp only [Option.map_some]
  rw [hr i y hy]
 ·rw [if_neg hi, List.getElem?_eq_none (by simp; omega)]
  rfl
theorem keyJ_len {cl row : List Nat} {q j : Nat} (hj : j ≤ row.length) : (keyJ cl row q j).length = j + 1 := by
 simp [keyJ]; omega
theorem keyJ_snoc {cl row : List Nat} {q j y : Nat} (hy : row[j]? = some y) : keyJ cl row q (j + 1) = keyJ cl row q j ++ [cl.getD y 0] := by
 unfold keyJ
 rw [take_snoc hy]
 simp
theorem natL_snoc (l : List Nat) (x : Nat) : natL (l ++ [x]) = natL l ++ [(x : Int)] := by simp [natL]
theorem split_any {w : World} {v : Value} {L c B : Nat} {A : Option Addr} {t : List (List Nat)} {ac : List Bool} {cl : List Nat} (h : IsDF w w.heap.size v t ac) (hok : DOK L t ac) (hcl : Sl w B 1 encI A (natL cl)) (hB : B ≤ w.heap.size) (hlen : cl.length = ac.length) (hv : ∀ x ∈ cl, x < 250000) (hL : L ≤ 8) (hn : ac.length ≤ 250000) (hT : PowT w) :
  Calls Tryz.prog 56 #[v, .slice A ac.length c] w (Ret fun r w' => Below w.heap.size w w' ∧ ∃ A' c', r = .tuple #[.slice A' ac.length c', .int .i64 ((dd ((List.range ac.length).map (keyR L (dnx t) cl))).length : Int)] ∧ Sl w' w'.heap.size 1 encI A' (natL (cRow ((List.range ac.length).map (keyR L (dnx t) cl))))) := by
 obtain ⟨A1, c1, A2, c2, rfl, h1, h2⟩ := h
 obtain ⟨w1, hw1, hb1, hB1, hk1⟩ := box_blk w #[.slice A1 t.length c1, .slice A2 ac.length c2] 52
 obtain ⟨gm, w2, hmp, hmap, hb2, hgm⟩ := mk_map 96 w1
 obtain ⟨gr, w3, hmk, hbl, hb3, hgr⟩ := mk_ints w2 ac.length (by omega)
 rw [fillC_nil] at hbl
 have hs1 := hb1.size
 have hs2 := hb2.size
 have hb03 : Below w.heap.size w w3 := hb1.trans ((hb2.mono hs1).trans (hb3.mono (by omega)))
 obtain ⟨ks, hks⟩ : ∃ ks, ks = (List.range ac.length).map (keyR L (dnx t) cl) := ⟨_, rfl⟩
 rw [← hks]
 have hksl : ks.length = ac.length := by rw [hks]; simp
 have hM0 := hide (show IdxMap w3 gm ((dd (ks.take 0)).map encK) from hmap.keep (hb3.block _ hmap.lt))
 have hR0 := hide (show Blk w3 gr 3 (fillC ac.length (cRow (ks.take 0))) from hbl)
 have hD0 := hide ((hB1.below hb2).below hb3)
 have htl := hok.len
 rw [htl] at hw1 hD0 ⊢
 obtain ⟨n, hne⟩ : ∃ n, n = ac.length := ⟨_, rfl⟩
 have hnH := hide hne
 have hn9 : n ≤ 250000 := by omega
 have h1H := hide h1
 have hokH := hide hok
 have hclH := hide hcl
 have hksH := hide hks
 have hkslH := hide hksl
 have hTH := hide hT
 have hgl := hB1.lt
 rw [← hne] at hmk hw1 hR0 hD0 ⊢
 have hgr0 : w.heap.size < gr := by omega
 have hgm0 : w.heap.size ≤ gm := by omega
 clear hmap hbl hk1 h1 h2 hne hgr hgm hb1 hb2 hb3 hok hcl hks hT htl hB1 hn hksl
 go_enter Tryz.func56, Tryz.ntmps56
 go_wp2_with fail
 go_loopw [21] (fun ii wr => ∃ k : Nat, ii = .int .i64 (k : Int) ∧ k ≤ n ∧ Below w.heap.size w wr ∧ Hid (Blk wr w.heap.size 52 #[.slice A1 n c1, .slice A2 n c2]) ∧ Hid (IdxMap wr gm ((dd (ks.take k)).map encK)) ∧ Hid (Blk wr gr 3 (fillC n (cRow (ks.take k))))) (fun ii _ => n - (intOf ii).toNat)
 case atStart => exact ⟨0, rfl, Nat.zero_le _, hb03, hD0, hM0, hR0⟩
 case round =>
  obtain ⟨k, rfl, hk, hBw, hD, hM, hR⟩ := hrel
  by_cases hkn : k < n
  ·have hnl := hnH.out
   obtain ⟨x, hx⟩ := get_lt (l := cl) (i := k) (by omega)
   obtain ⟨bc, oc, rfl, hbc, hcc0⟩ := sl_natat hclH.out hx
   have hltk : (ks.take k).length = k := by rw [List.length_take, hkslH.out]; omega
   have hDD := hD.out
   have hMM := hM.out
   have hRR := hR.out
   have hcr : wr.cell? ⟨gr, k, none⟩ = some (.int .i64 0) := by
    rw [hRR.cell]
    have := fillC_get (L := n) (row := cRow (ks.take k)) (by rw [cRow_len, hltk]; exact hkn)
    rwa [cRow_len, hltk] at this
   have hfr := hRR.frozen k
   have hlr := hRR.lt
   obtain ⟨w4, hw4⟩ : ∃ w4, wr.setCell ⟨gr, k, none⟩ (.int .i64 (-1)) = w4 := ⟨_, rfl⟩
   have hk4 : Kept wr w4 (fun b => b = gr) := by rw [← hw4]; exact (Kept.refl wr (fun b => b = gr)).setCell (p := ⟨gr, k, none⟩) (fun _ => rfl) _
   have hR4 : Blk w4 gr 3 ((fillC n (cRow (ks.take k))).setIfInBounds k (.int .i64 (-1))) := by rw [← hw4]; exact hRR.set_ k _
   have hM4 := hMM.kept hk4 fun e => blk_map_ne hRR hMM e.symm
   have hD4 := hDD.kept hk4 (hDD.ne_ hRR (by decide))
   have hB4 := hBw.trans (hk4.below hBw.size fun b hb e => by omega)
   obtain ⟨bn, on, Ar, cr, row, rfl, hbn, hcn0, hrow, hrl, hrS, hrv⟩ := df_row h1H.out hokH.out (q := k) (by omega)
   have hcc : w4.cell? ⟨bc, oc + k, none⟩ = some (.int .i64 (x : Int)) := (hB4.cell (by show bc < _; omega)).trans hcc0
   have hc4 := hD4.cell
   obtain ⟨w5, hw5, hb5, hB5, hk5⟩ := box_blk w4 #[.int .i64 (x : Int)] 3
   have hB5w := hB4.trans (hb5.mono hB4.size)
   have hcn : w5.cell? ⟨bn, on + k, none⟩ = some (.slice Ar L cr) := (hB5w.cell hbn).trans hcn0
   have hc5 := (hD4.below hb5).cell
   have hs4 := hB4.size
   have hs5 := hb5.size
   have hx9 := hv x (List.mem_of_getElem? hx)
   have hR4H := hide hR4
   have hM4H := hide hM4
   have hD4H := hide hD4
   have hB4H := hide hB4
   have hxH := hide hx
   have hrSH := hide hrS
   have hrvH := hide hrv
   have hrlH := hide hrl
   have hOw := hide (show w5.ownsRow w4.heap.size 3 1 (.slice (some ⟨w4.heap.size, 0, none⟩) (0 + 1) 1) (0 + 1) ((natL (keyJ cl row k 0)).map (Value.int .i64)) from by
    have := own_of_blk (base := w4.heap.size) (n := 1) hB5 (Nat.le_refl _) rfl (by omega)
    have e : natL (keyJ cl row k 0) = [(x : Int)] := by simp [keyJ, natL, hx]
    rw [e]
    exact this)
   have hb5H := hide hb5
   clear hR4 hM4 hD4 hx hrS hrv hMM hRR hDD hcc0 hcn0 hrow hk4 hnl hB5 hk5 hrl hB5w hb5 hB4
   have hnk : ¬ n ≤ k := by omega
   have hx0 : ¬ (x : Int) < 0 := by omega
   go_wp2_with fail
   clear hnk hx0
   go_loopw [9, 50] (fun vv ii wz => ∃ (j cap g : Nat), vv = .slice (some ⟨g, 0, none⟩) (j + 1) cap ∧ ii = .int .i64 (j : Int) ∧ j ≤ L ∧ Below w4.heap.size w4 wz ∧ Hid (wz.ownsRow w4.heap.size 3 1 (.slice (some ⟨g, 0, none⟩) (j + 1) cap) (j + 1) ((natL (keyJ cl row k j)).map (Value.int .i64)))) (fun _ ii _ => L - (intOf ii).toNat)
   case atStart => exact ⟨0, 1, w4.heap.size, rfl, rfl, Nat.zero_le _, hb5H.out, hOw⟩
   case round =>
    obtain ⟨j, cap, g, rfl, rfl, hj, hBz, hO⟩ := hrel
    by_cases hjL : j < L
    ·obtain ⟨y, hy⟩ := get_lt (l := row) (i := j) (by rw [hrlH.out]; exact hjL)
     obtain ⟨br, or', rfl, hbr, hcr0⟩ := sl_natat hrSH.out hy
     have hyn := (hrvH.out j y hy).1
     obtain ⟨z, hz⟩ := get_lt (l := cl) (i := y) (by omega)
     obtain ⟨hbc2, hcz0⟩ := sl_natcell hclH.out hz
     have hB0z := hB4H.out.trans (hBz.mono hs4)
     have hcy : wr.cell? ⟨br, or' + j, none⟩ = some (.int .i64 (y : Int)) := (hB0z.cell hbr).trans hcr0
     have hcz : wr.cell? ⟨bc, oc + y, none⟩ = some (.int .i64 (z : Int)) := (hB0z.cell (by show bc < _; omega)).trans hcz0
     have hyl : y < n := by rw [hnH.out]; exact hyn
     have hkj := hide (keyJ_snoc (cl := cl) (q := k) hy)
     have hzz := hide (getD_some (d := 0) hz)
     have hsz := hBz.size
     have hOO := hO
     clear hy hz hcr0 hcz0 hO hbc2 hB0z
     go_wp2_with (at_builtin; refine wpList_app_new row3 rfl _ _ rfl w4.heap.size (.slice (some ⟨g, 0, none⟩) (j + 1) cap) (j + 1) _ rfl hOO.out [.int .i64 (z : Int)] 1 rfl rfl (by simp [Value.oneCell']) (by omega) hsz ?_; intro g' cap' w6 hown6 hk6 hmv6 hg6)
     have hO6 : w6.ownsRow w4.heap.size 3 1 (.slice (some ⟨g', 0, none⟩) (j + 1 + 1) cap') (j + 1 + 1) ((natL (keyJ cl row k (j + 1))).map (Value.int .i64)) := by
      rw [hkj.out, natL_snoc, List.map_append, hzz.out]
      exact hown6
     exact ⟨⟨j + 1, cap', g', rfl, by go_num, by omega, hBz.trans (hk6.below hsz fun b hb e => by have := own_base hOO.out e; omega), hide hO6⟩, by simp [intOf]; omega⟩
    ·obtain rfl : j = L := by omega
     have hkey := keyJ_all (t := t) (cl := cl) (q := k) hrlH.out fun x y hh => (hrvH.out x y hh).2
     have hkl : (keyJ cl row k j).length = j + 1 := keyJ_len (by rw [hrlH.out]; exact Nat.le_refl _)
     obtain ⟨kk, hkk⟩ : ∃ kk, kk = keyJ cl row k j := ⟨_, rfl⟩
     have hOk := hO.out
     rw [← hkk] at hkey hkl hOk
     obtain ⟨g0, c0, e0, hSk, hck⟩ := own_cells hOk hkl (by omega) (by omega)
     injection e0 with e1 _ e3
     injection e1 with e1
     injection e1 with e1
     subst e1 e3
     have hnl : (natL kk).length = j + 1 := by simp [natL, hkl]
     have hB0z := hB4H.out.trans (hBz.mono hs4)
     have hcon : Calls Tryz.prog 85 #[.slice (some ⟨g, 0, none⟩) (j + 1) cap, .int .i64 (-1)] wr fun e w' => e = .returned (.bool false) ∧ w' = wr := by
      have h1 := Tryz.slices_Contains_int g 0 (j + 1) cap (natL kk) (-1) wr (by omega) (by omega) hck
      have h2 : ((natL kk).take (j + 1)).contains (-1) = false := by
       rw [Bool.eq_false_iff]
       intro hh
       have := List.mem_of_mem_take (List.contains_iff_mem.1 hh)
       obtain ⟨q, _, hq⟩ := List.mem_map.1 this
       omega
      rw [h2] at h1
      exact h1
     have hkv : ∀ x ∈ kk, x < 1000000000 := by
      intro x hx
      rw [hkk] at hx
      have hz : ∀ q, cl.getD q 0 < 250000 := fun q => by
       rcases Nat.lt_or_ge q cl.length with hq | hq
       ·obtain ⟨v, hv'⟩ := get_lt hq
        rw [getD_some hv']
        exact hv v (List.mem_of_getElem? hv')
       ·rw [List.getD_eq_getElem?_getD, List.getElem?_eq_none hq]; simp
      unfold keyJ at hx
      rcases List.mem_cons.1 hx with rfl | hx
      ·have := hz k; omega
      ·obtain ⟨q, _, rfl⟩ := List.mem_map.1 hx
       have := hz q; omega
     have hks2 := key_any (c := cap) hSk (Nat.le_refl _) hkv (by omega) (hTH.out.below hB0z)
     rw [hnl] at hks2
     have htk : ks.take (k + 1) = ks.take k ++ [kk] := by
      refine take_snoc ?_
      rw [hksH.out, hkey]
      exact map_get (List.getElem?_range (by have := hnH.out; omega))
     have htkH := hide htk
     have hMz := hM4H.out.keep (hBz.block _ hM4H.out.lt)
     have hRz := hR4H.out.below hBz
     have hB0zH := hide hB0z
     have hsz := hBz.size
     clear hkey hkl hOk hSk hck hnl hB0z hkv htk hO hkk
     go_wp2_with fail
     refine hcon.mono ?_
     rintro e w' ⟨rfl, rfl⟩
     go_wp2_with fail
     refine Calls.ret hks2 ?_
     rintro v w7 ⟨rfl, hb7⟩
     have hM7 := hMz.keep (hb7.block _ hMz.lt)
     have hR7 := hRz.below hb7
     have hlk := run_idx_lookup keyS Tryz.underlying96 zero3 hM7 kk
     have hcr7 : w7.cell? ⟨gr, k, none⟩ = some (.int .i64 (-1)) := by
      rw [hR7.cell, Array.getElem?_setIfInBounds]
      rw [if_pos rfl, if_pos (by simp [fillC, cRow_len, hltk]; omega)]
     have hfr7 := hR7.frozen k
     have hlr7 := hR7.lt
     have hB7 := hB0zH.out.trans (hb7.mono hB0zH.out.size)
     by_cases hs : kk ∈ dd (ks.take k)
     ·have hdd : dd (ks.take k ++ [kk]) = dd (ks.take k) := by rw [dd_snoc]; exact meet_old hs
      obtain ⟨hm2, hr2, hk2⟩ := cls_put2 hdd hM7 hR7 hltk hkn
      rw [← htkH.out] at hm2 hr2
      have hm2H := hide hm2
      have hr2H := hide hr2
      have hB2 := hB7.trans (hk2.below hB7.size fun b hb e => by omega)
      have hD2 := hide ((((hD4H.out.below hBz).below hb7)).kept hk2 (((hD4H.out.below hBz).below hb7).ne_ hR7 (by decide)))
      simp only [hs, if_true, decide_true, encK, keyB] at hlk
      clear hm2 hr2 hs hM7 hR7 hdd hk2 hb7 hMz hRz hBz
      go_wp2_with fail
      exact ⟨⟨k + 1, by go_num, by omega, hB2, hD2, hm2H, hr2H⟩, by simp [intOf]; omega⟩
     ·have hdd : dd (ks.take k ++ [kk]) = dd (ks.take k) ++ [kk] := by rw [dd_snoc]; exact meet_new hs
      simp only [hs, if_false, decide_false, encK, keyB] at hlk
      obtain ⟨w8, hup, hm8, hg8, hs8⟩ := run_idx_store keyS Tryz.underlying96 hM7 kk hs
      have hle : ∀ ty, (Builtin.len_ #[96] ty #[.map (some gm)]).run Tryz.prog w7 = .ok (.int .i64 ((dd (ks.take k)).length : Int)) w7 := fun ty => by
       have := run_idx_len (ty := ty) Tryz.underlying96 hM7
       simpa using this
      have hk8 := Kept.of_grown hg8
      have hr8 := hR7.kept hk8 (fun e => blk_map_ne hR7 hM7 (Option.some.inj e).symm)
      have hcr8 : w8.cell? ⟨gr, k, none⟩ = some (.int .i64 (-1)) := by rw [hr8.cell, ← hR7.cell, hcr7]
      have hfr8 := hr8.frozen k
      have hlr8 := hr8.lt
      have hD7 := (hD4H.out.below hBz).below hb7
      have hD8 := hD7.kept hk8 (fun e => blk_map_ne hD7 hM7 (Option.some.inj e).symm)
      obtain ⟨hm2, hr2, hk2⟩ := cls_put2 hdd hm8 hr8 hltk hkn
      have hD2 := hide (hD8.kept hk2 (hD8.ne_ hr8 (by decide)))
      rw [← htkH.out, pos_new hs] at hm2 hr2
      rw [pos_new hs] at hk2 hD2
      have hm2H := hide hm2
      have hr2H := hide hr2
      have hB8 := hB7.trans (hk8.below hB7.size fun b hb e => by have := Option.some.inj e; omega)
      have hB2 := hB8.trans (hk2.below hB8.size fun b hb e => by omega)
      simp only [encK, keyB] at hup
      clear hm2 hr2 hs hM7 hR7 hdd hm8 hg8 hs8 hk8 hr8 hk2 hD7 hD8 hb7 hMz hRz hBz
      go_wp2_with fail
      exact ⟨⟨k + 1, by go_num, by omega, hB2, hD2, hm2H, hr2H⟩, by simp [intOf]; omega⟩
  ·obtain rfl : k = n := by omega
   have hMM := hM.out
   have hle : ∀ ty, (Builtin.len_ #[96] ty #[.map (some gm)]).run Tryz.prog wr = .ok (.int .i64 ((dd (ks.take k)).length : Int)) wr := fun ty => by
    have := run_idx_len (ty := ty) Tryz.underlying96 hMM
    simpa using this
   clear hMM
   go_wp2_with fail
   go_ret2
   have hnl := hnH.out
   have hta : ks.take k = ks := by rw [hnl, ← hkslH.out, List.take_length]
   have hRR := hR.out
   rw [hta] at hRR ⊢
   exact ⟨hBw, _, _, rfl, fillC_sl hRR (by rw [cRow_len, hnl, hkslH.out]) (by omega)⟩
end Go.Proofs.YtakpmdmjbgipiaaGreatDoor
namespace Go.Proofs.YtakpmdmjbgipiaaGreatDoor
open Go.RowKit
set_option maxHeartbeats 16000000
set_option maxRecDepth 100000
section
variable {S : Type} [DecidableEq S] {L : Nat} {δ : S → Nat → S} {s0 : S}
def rowsG (L : Nat) (δ : S → Nat → S) (all : List S) (i : Nat) : List (List Nat) := (all.take i).map fun s => (List.range L).map fun x => posL all (δ s x)
theorem rowsG_ext {all all' : List S} {i : Nat} (h : Exp L δ s0 i all) (hp : all <+: all') : rowsG L δ all' i = rowsG L δ all i := by
 have hi := h.inv.le
 unfold rowsG
 obtain ⟨t, rfl⟩ := hp
 rw [List.take_append_of_le_length hi]
 refine List.map_congr_left fun s hs => List.map_congr_left fun x hx => ?_
 obtain ⟨j, hj⟩ := List.mem_iff_getElem?.1 hs
 rw [List.getElem?_take] at hj
 split at hj
 ·exact pos_pre (List.prefix_append _ _) (h.inv.closed j s (by assumption) hj x (List.mem_range.1 hx))
 ·cases hj
theorem rowsG_succ {all : List S} {i : Nat} {s : S} (hs : all[i]? = some s) : rowsG L δ all (i + 1) = rowsG L δ all i ++ [(List.range L).map fun x => posL all (δ s x)] := by
 unfold rowsG
 rw [take_snoc hs, List.map_append]
 rfl
theorem rowsG_len {all : List S} {i : Nat} (hi : i ≤ all.length) : (rowsG L δ all i).length = i := by simp [rowsG]; omega
theorem posG_step {s : S} {all : List S} {x y : Nat} (h : y < x) : posL (rowL δ s all (x + 1)) (δ s y) = posL (rowL δ s all x) (δ s y) := by
 rw [rowL_succ]
 exact pos_pre (prefix_meetL _ _) (rowL_has s all h)
end
def OwnDF (w : World) (base : Nat) (v : Value) (t : List (List Nat)) (ac : List Bool) : Prop :=
 ∃ (vN vA : Value) (ws : List Value), v = .agg #[vN, vA] ∧ w.ownsRow base 4 1 vA ac.length (ac.map Value.bool) ∧ w.ownsRow base 22 1 vN t.length ws ∧ RowsI w base (fun _ => True) ws (t.map natL)
theorem OwnDF.kept {w w' : World} {base base' : Nat} {v : Value} {t : List (List Nat)} {ac : List Bool} {X : Nat → Prop} (h : OwnDF w base v t ac) (hk : Kept w w' X) (hX : ∀ g, X g → g < w.heap.size → g < base) (hb : base' ≤ base) : OwnDF w' base' v t ac := by
 obtain ⟨vN, vA, ws, e, hA, hN, hR⟩ := h
 refine ⟨vN, vA, ws, e, own_mono (hk.ownsRow hA fun g hg e => ?_) hb, own_mono (hk.ownsRow hN fun g hg e => ?_) hb, hR.imp fun v d hh => ⟨own_mono (hk.ownsRow hh.1 fun g hg e => ?_) hb, fun _ _ => trivial⟩⟩
 ·have h1 := own_base hA hg
  have h2 := hX g e (own_lt hA hg)
  omega
 ·have h1 := own_base hN hg
  have h2 := hX g e (own_lt hN hg)
  omega
 ·have h1 := own_base hh.1 hg
  have h2 := hX g e (own_lt hh.1 hg)
  omega
theorem OwnDF.read {w : World} {base : Nat} {v : Value} {t : List (List Nat)} {ac : List Bool} (h : OwnDF w base v t ac) (hl : ∀ r ∈ t, r.length ≤ 4000000) (ht : t.length ≤ 4000000) (ha : ac.length ≤ 4000000) : IsDF w w.heap.size v t ac := by
 obtain ⟨vN, vA, ws, rfl, hA, hN, hR⟩ := h
 obtain ⟨A1, c1, e1, h1⟩ := RowsI.read hR hN ht (Nat.le_refl _) (fun d hd => by
  obtain ⟨r, hr, rfl⟩ := List.mem_map.1 hd
  have := hl r hr
  simpa [natL] using this)
 obtain ⟨A2, c2, e2, h2⟩ := own_slB (B := w.heap.size) hA rfl (Nat.le_refl _) (by omega)
 rw [List.length_map] at e1
 exact ⟨A1, c1, A2, c2, by rw [e1, e2], vsl_nat h1, h2⟩
structure QM (w0 wr : World) (g2 g4 g5 gm : Nat) (c2 : Array Value) (kst st : List Nat) (t : List (List Nat)) (as' : List Bool) (vS vN vA : Value) (ws : List Value) (N : Nat → Prop) : Prop where
 below : Below w0.heap.size w0 wr
 b2 : Blk wr g2 52 c2
 b4 : Blk wr g4 52 #[sn0, sn0]
 b5 : Blk wr g5 52 #[vN, vA]
 map : IdxMap wr gm (kst.map encN)
 sts : wr.ownsRow w0.heap.size 3 1 vS st.length ((natL st).map (Value.int .i64))
 acc : wr.ownsRow w0.heap.size 4 1 vA as'.length (as'.map Value.bool)
 nxt : wr.ownsRow w0.heap.size 22 1 vN t.length ws
 nxtR : RowsI wr w0.heap.size (fun g => N g ∧ vS.ownBlock ≠ some g) ws (t.map natL)
 ne : g2 ≠ g5 ∧ g4 ≠ g5
 ge : w0.heap.size ≤ g2 ∧ w0.heap.size ≤ g4 ∧ w0.heap.size ≤ g5 ∧ w0.heap.size ≤ gm
section
variable {w0 wr w' : World} {g2 g4 g5 gm : Nat} {c2 : Array Value} {kst st : List Nat} {t : List (List Nat)} {as' : List Bool} {vS vN vA : Value} {ws : List Value} {N : Nat → Prop}
theorem QM.keep (h : QM w0 wr g2 g4 g5 gm c2 kst st t as' vS vN vA ws N) (hb : Below wr.heap.size wr w') : QM w0 w' g2 g4 g5 gm c2 kst st t as' vS vN vA ws N :=
 ⟨h.below.trans (hb.mono h.below.size), h.b2.below hb, h.b4.below hb, h.b5.below hb, h.map.keep (hb.block _ h.map.lt), own_below h.sts hb, own_below h.acc hb, own_below h.nxt hb,
  h.nxtR.keep (Kept.of_below hb (fun _ => False)) (fun _ _ _ e => e.elim) (fun _ _ x => x) (Nat.le_refl _), h.ne, h.ge⟩
theorem QM.weak {N' : Nat → Prop} (h : QM w0 wr g2 g4 g5 gm c2 kst st t as' vS vN vA ws N) (hN : ∀ g, g < wr.heap.size → N g → N' g) : QM w0 wr g2 g4 g5 gm c2 kst st t as' vS vN vA ws N' :=
 ⟨h.below, h.b2, h.b4, h.b5, h.map, h.sts, h.acc, h.nxt, h.nxtR.keep (Kept.refl wr (fun _ => False)) (fun _ _ _ e => e.elim) (fun g hg x => ⟨hN g hg x.1, x.2⟩) (Nat.le_refl _), h.ne, h.ge⟩
theorem QM.other (h : QM w0 wr g2 g4 g5 gm c2 kst st t as' vS vN vA ws N) {gr : Nat} {c3 : Array Value} (hN : ∀ g, N g → g ≠ gr) (hS : vS.ownBlock ≠ some gr) (hr : Blk wr gr 3 c3) (hg : w0.heap.size ≤ gr) (hk : Kept wr w' (fun k => k = gr)) : QM w0 w' g2 g4 g5 gm c2 kst st t as' vS vN vA ws N :=
 ⟨h.below.trans (hk.below h.below.size fun b hb e => by omega), h.b2.kept hk (h.b2.ne_ hr (by decide)), h.b4.kept hk (h.b4.ne_ hr (by decide)), h.b5.kept hk (h.b5.ne_ hr (by decide)),
  h.map.kept hk (fun e => blk_map_ne hr h.map e.symm), hk.ownsRow h.sts (fun g hg e => hS (by rw [hg, e])),
  own_ty hk h.acc (fun g cs e hB => by subst e; exact hB.ne_ hr (by decide) rfl), own_ty hk h.nxt (fun g cs e hB => by subst e; exact hB.ne_ hr (by decide) rfl),
  h.nxtR.keep hk (fun g cs hn e _ => hN g hn.1 e) (fun _ _ x => x) (Nat.le_refl _), h.ne, h.ge⟩
theorem QM.addS {kv s : Nat} {vS' : Value} {wm w1 : World} (h : QM w0 wr g2 g4 g5 gm c2 kst st t as' vS vN vA ws N) (hup : IdxMap wm gm ((kst ++ [kv]).map encN)) (hg : wr.grownBy wm (some gm)) (hgs : wm.heap.size = wr.heap.size)
  (hk1 : Kept wm w1 (fun k => vS.ownBlock = some k)) (ho1 : w1.ownsRow w0.heap.size 3 1 vS' (st.length + 1) ((natL st).map (Value.int .i64) ++ [.int .i64 (s : Int)])) (hmv : Moved wm vS vS') :
  QM w0 w1 g2 g4 g5 gm c2 (kst ++ [kv]) (st ++ [s]) t as' vS' vN vA ws N ∧ Kept wr w1 (fun k => gm = k ∨ vS.ownBlock = some k) := by
 have hkg : Kept wr wm (fun k => gm = k) := (Kept.of_grown hg).mono fun b _ e => Option.some.inj e
 have hall : Kept wr w1 (fun k => gm = k ∨ vS.ownBlock = some k) := (hkg.mono fun _ _ e => .inl e).trans hk1 fun _ _ e => .inr e
 have hty : ∀ {e : TypeId}, e ≠ 3 → ∀ g cs, (gm = g ∨ vS.ownBlock = some g) → ¬ Blk wr g e cs := by
  rintro e h1 g cs (e1 | e1) hB
  ·exact blk_map_ne hB h.map e1.symm
  ·exact own_blk_ne h.sts hB (fun hh => h1 hh.symm) e1
 have hsm := hkg.ownsRow h.sts fun g hg e => own_map_ne h.sts h.map (by rw [hg, e])
 refine ⟨⟨h.below.trans (hall.below h.below.size ?_), h.b2.kept hall fun x => hty (by decide) _ _ x h.b2, h.b4.kept hall fun x => hty (by decide) _ _ x h.b4, h.b5.kept hall fun x => hty (by decide) _ _ x h.b5,
  hup.kept hk1 (own_map_ne hsm hup), ?_, own_ty hall h.acc (hty (by decide)), own_ty hall h.nxt (hty (by decide)), ?_, h.ne, h.ge⟩, hall⟩
 ·rintro b hb (e | e)
  ·have := h.ge; omega
  ·have := own_base h.sts e; omega
 ·rw [List.length_append, natL_snoc, List.map_append]
  exact ho1
 ·refine h.nxtR.keep hall ?_ ?_ (Nat.le_refl _)
  ·rintro g cs hn (e | e) hB
   ·exact blk_map_ne hB h.map e.symm
   ·exact hn.2 e
  ·rintro g hg ⟨h1, h2⟩
   refine ⟨h1, fun e => ?_⟩
   rcases hmv with hh | ⟨g', hh, hlt⟩
   ·exact h2 (by rw [← hh]; exact e)
   ·rw [e] at hh
    have := Option.some.inj hh
    omega
theorem QM.addA {b : Bool} {vA' : Value} {w1 : World} (h : QM w0 wr g2 g4 g5 gm c2 kst st t as' vS vN vA ws N) (hk1 : Kept wr w1 (fun k => vA.ownBlock = some k)) (ho : w1.ownsRow w0.heap.size 4 1 vA' (as'.length + 1) (as'.map Value.bool ++ [.bool b])) :
  QM w0 (w1.setCell ⟨g5, 1, none⟩ vA') g2 g4 g5 gm c2 kst st t (as' ++ [b]) vS vN vA' ws N := by
 have n5 := h.b5.kept hk1 (own_blk_ne h.acc h.b5 (by decide))
 have hk2 := (Kept.refl w1 (fun k => k = g5)).setCell (p := ⟨g5, 1, none⟩) (fun _ => rfl) vA'
 have hall : Kept wr (w1.setCell ⟨g5, 1, none⟩ vA') (fun k => vA.ownBlock = some k ∨ k = g5) := (hk1.mono fun _ _ e => .inl e).trans hk2 fun _ _ e => .inr e
 have hty : ∀ {e : TypeId}, e ≠ 4 → e ≠ 52 → ∀ g cs, (vA.ownBlock = some g ∨ g = g5) → ¬ Blk wr g e cs := by
  rintro e h1 h2 g cs (e1 | e1) hB
  ·exact own_blk_ne h.acc hB (fun hh => h1 hh.symm) e1
  ·exact hB.ne_ h.b5 h2 e1
 have h72 : ∀ {g : Nat} {cs : Array Value}, Blk wr g 52 cs → g ≠ g5 → ¬ (vA.ownBlock = some g ∨ g = g5) := by
  rintro g cs hB hne (e | e)
  ·exact own_blk_ne h.acc hB (by decide) e
  ·exact hne e
 refine ⟨h.below.trans (hall.below h.below.size ?_), h.b2.kept hall (h72 h.b2 h.ne.1), h.b4.kept hall (h72 h.b4 h.ne.2), n5.set_ 1 vA', h.map.kept hall ?_, own_ty hall h.sts (hty (by decide) (by decide)), ?_, own_ty hall h.nxt (hty (by decide) (by decide)),
  h.nxtR.keep hall (fun g cs _ e => hty (by decide) (by decide) g cs e) (fun _ _ x => x) (Nat.le_refl _), h.ne, h.ge⟩
 ·rintro b hb (e | e)
  ·have := own_base h.acc e; omega
  ·have := h.ge; omega
 ·rintro (e | e)
  ·exact own_map_ne h.acc h.map e
  ·exact blk_map_ne h.b5 h.map e.symm
 ·rw [List.length_append, List.map_append]
  exact own_ty hk2 ho (fun g cs e hB => by subst e; exact hB.ne_ n5 (by decide) rfl)
theorem QM.addR {row : List Nat} {gr c : Nat} {vN' : Value} {w1 : World} (h : QM w0 wr g2 g4 g5 gm c2 kst st t as' vS vN vA ws N)
  (hr : wr.ownsRow w0.heap.size 3 1 (.slice (some ⟨gr, 0, none⟩) row.length c) row.length ((natL row).map (Value.int .i64))) (hS : vS.ownBlock ≠ some gr)
  (hk1 : Kept wr w1 (fun k => vN.ownBlock = some k)) (ho : w1.ownsRow w0.heap.size 22 1 vN' (t.length + 1) (ws ++ [.slice (some ⟨gr, 0, none⟩) row.length c])) :
  QM w0 (w1.setCell ⟨g5, 0, none⟩ vN') g2 g4 g5 gm c2 kst st (t ++ [row]) as' vS vN' vA (ws ++ [.slice (some ⟨gr, 0, none⟩) row.length c]) (fun _ => True) := by
 have n5 := h.b5.kept hk1 (own_blk_ne h.nxt h.b5 (by decide))
 have hk2 := (Kept.refl w1 (fun k => k = g5)).setCell (p := ⟨g5, 0, none⟩) (fun _ => rfl) vN'
 have hall : Kept wr (w1.setCell ⟨g5, 0, none⟩ vN') (fun k => vN.ownBlock = some k ∨ k = g5) := (hk1.mono fun _ _ e => .inl e).trans hk2 fun _ _ e => .inr e
 have hty : ∀ {e : TypeId}, e ≠ 22 → e ≠ 52 → ∀ g cs, (vN.ownBlock = some g ∨ g = g5) → ¬ Blk wr g e cs := by
  rintro e h1 h2 g cs (e1 | e1) hB
  ·exact own_blk_ne h.nxt hB (fun hh => h1 hh.symm) e1
  ·exact hB.ne_ h.b5 h2 e1
 have h72 : ∀ {g : Nat} {cs : Array Value}, Blk wr g 52 cs → g ≠ g5 → ¬ (vN.ownBlock = some g ∨ g = g5) := by
  rintro g cs hB hne (e | e)
  ·exact own_blk_ne h.nxt hB (by decide) e
  ·exact hne e
 refine ⟨h.below.trans (hall.below h.below.size ?_), h.b2.kept hall (h72 h.b2 h.ne.1), h.b4.kept hall (h72 h.b4 h.ne.2), n5.set_ 0 vN', h.map.kept hall ?_, own_ty hall h.sts (hty (by decide) (by decide)), own_ty hall h.acc (hty (by decide) (by decide)), ?_, ?_, h.ne, h.ge⟩
 ·rintro b hb (e | e)
  ·have := own_base h.nxt e; omega
  ·have := h.ge; omega
 ·rintro (e | e)
  ·exact own_map_ne h.nxt h.map e
  ·exact blk_map_ne h.b5 h.map e.symm
 ·rw [List.length_append]
  exact own_ty hk2 ho (fun g cs e hB => by subst e; exact hB.ne_ n5 (by decide) rfl)
 ·rw [List.map_append]
  refine RowsI.snoc (h.nxtR.keep hall (fun g cs _ e => hty (by decide) (by decide) g cs e) (fun _ _ x => ⟨trivial, x.2⟩) (Nat.le_refl _)) ?_ ?_
  ·have := own_ty hall hr (hty (by decide) (by decide))
   have el : (natL row).length = row.length := by simp [natL]
   rw [el]
   exact this
  ·intro g hg
   refine ⟨trivial, fun e => hS ?_⟩
   have : gr = g := by simpa [Value.ownBlock] using hg
   rw [this]
   exact e
theorem QM.finO {wF : World} (h : QM w0 wr g2 g4 g5 gm c2 kst st t as' vS vN vA ws N) (hk : Kept wr wF (fun k => k = g4 ∨ k < w0.heap.size)) :
  OwnDF wF w0.heap.size (.agg #[vN, vA]) t as' := by
 have hge := h.ge
 have hN := hk.ownsRow h.nxt fun g hg e => by
  rcases e with e | e
  ·exact own_blk_ne h.nxt h.b4 (by decide) (by rw [hg, e])
  ·have := own_base h.nxt hg; omega
 have hA := hk.ownsRow h.acc fun g hg e => by
  rcases e with e | e
  ·exact own_blk_ne h.acc h.b4 (by decide) (by rw [hg, e])
  ·have := own_base h.acc hg; omega
 exact ⟨vN, vA, ws, rfl, hA, hN, h.nxtR.imp fun v d hh => ⟨hk.ownsRow hh.1 fun g hg e => by
  rcases e with e | e
  ·exact own_blk_ne hh.1 h.b4 (by decide) (by rw [hg, e])
  ·have := own_base hh.1 hg; omega, fun _ _ => trivial⟩⟩
end
end Go.Proofs.YtakpmdmjbgipiaaGreatDoor
