/-
  Part PC of a proof.
-/
import Derived.Test.YtakpmdmjbgipiaaGreatDoorPA
import Derived.Test.YtakpmdmjbgipiaaGreatDoorPB
set_option maxHeartbeats 16000000
set_option maxRecDepth 100000
set_option linter.unusedVariables false
set_option linter.unusedSimpArgs false
namespace Go.Proofs.YtakpmdmjbgipiaaGreatDoor
open Go.RowKit
theorem denote_any {w : World} {B : Nat} {A : Option Addr} {c : Nat} {l : List Int} (n : Int) (h : Sl w B 1 encI A l) :
  Calls Tryz.prog 75 #[.int .i64 n, .slice A l.length c] w fun e w' => e = .returned (.bool (l.all (inN n))) ∧ w = w' := by
 have hn := h.1
 go_enter Tryz.func75, Tryz.ntmps75
 go_wp2_with fail
 go_loop [9] (fun ii => ∃ (k : Nat), ii = .int .i64 (k : Int) ∧ k ≤ l.length ∧ Hid ((l.take k).all (inN n) = true)) (fun ii => l.length - (intOf ii).toNat)
 case atStart => exact ⟨0, rfl, Nat.zero_le _, rfl⟩
 case round =>
  obtain ⟨k, rfl, hk, hE⟩ := hrel
  by_cases hlt : k < l.length
  ·obtain ⟨b, off, x, rfl, hbb, hx, hc⟩ := h.at hlt
   have hc0 := hc 0 (by omega)
   simp only [Nat.mul_one, Nat.add_zero, encI] at hc0
   have hX := hide hx
   clear hx hc
   by_cases h0 : x < 0
   ·have hq := hide (all_false hX.out (p := inN n) (by simp [inN]; omega))
    go_wp2_with fail
    go_ret
    exact ⟨by rw [hq.out]; rfl, rfl⟩
   ·by_cases h1 : n ≤ x
    ·have hq := hide (all_false hX.out (p := inN n) (by simp [inN]; omega))
     go_wp2_with fail
     go_ret
     exact ⟨by rw [hq.out]; rfl, rfl⟩
    ·have hq := hide (all_take_succ hX.out hE.out (p := inN n) (by simp [inN]; omega))
     go_wp2_with fail
     exact ⟨⟨k + 1, by go_num, by omega, hq⟩, by simp [intOf]; omega⟩
  ·have hq := hide (all_done (by omega) hE.out)
   go_wp2_with fail
   go_ret
   exact ⟨by rw [hq.out]; rfl, rfl⟩
def inC (n lo hi : Int) : Bool := decide (lo ≤ n) && decide (n ≤ hi)
theorem within_any (n lo hi : Int) (w : World) : Calls Tryz.prog 58 #[.int .i64 n, .int .i64 lo, .int .i64 hi] w fun e w' => e = .returned (.bool (inC n lo hi)) ∧ w = w' := by
 by_cases h : lo ≤ n
 all_goals
  go_enter Tryz.func58, Tryz.ntmps58
  go_wp2_with fail
  go_ret
  exact ⟨by simp [inC]; omega, rfl⟩
theorem inC_inN {n x : Int} : inC x 0 (n - 1) = inN n x := by
 unfold inC inN
 congr 1
 exact decide_eq_decide.2 (by omega)
theorem below_any {w : World} {B : Nat} {A : Option Addr} {c : Nat} {l : List Int} {n : Int} (h : Sl w B 1 encI A l) (hn0 : 0 ≤ n) (hn1 : n ≤ 9223372036854775807) :
  Calls Tryz.prog 59 #[.slice A l.length c, .int .i64 n] w fun e w' => e = .returned (.bool (l.all (inN n))) ∧ w = w' := by
 have hn := h.1
 go_enter Tryz.func59, Tryz.ntmps59
 go_wp2_with fail
 go_loop [5] (fun ii => ∃ (k : Nat), ii = .int .i64 (k : Int) ∧ k ≤ l.length ∧ Hid ((l.take k).all (inN n) = true)) (fun ii => l.length - (intOf ii).toNat)
 case atStart => exact ⟨0, rfl, Nat.zero_le _, rfl⟩
 case round =>
  obtain ⟨k, rfl, hk, hE⟩ := hrel
  by_cases hlt : k < l.length
  ·obtain ⟨b, off, x, rfl, hbb, hx, hc⟩ := h.at hlt
   have hc0 := hc 0 (by omega)
   simp only [Nat.mul_one, Nat.add_zero, encI] at hc0
   have hX := hide hx
   clear hx hc
   cases hin : inN n x
   ·have hq := hide (all_false hX.out hin)
    have hI := hide hin
    clear hin
    go_wp2_with (go_at_call 58; refine (within_any _ _ _ _).mono ?_; rintro e w' ⟨rfl, rfl⟩; rw [inC_inN, hI.out])
    go_ret
    exact ⟨by rw [hq.out]; rfl, rfl⟩
   ·have hq := hide (all_take_succ hX.out hE.out hin)
    have hI := hide hin
    clear hin
    go_wp2_with (go_at_call 58; refine (within_any _ _ _ _).mono ?_; rintro e w' ⟨rfl, rfl⟩; rw [inC_inN, hI.out])
    exact ⟨⟨k + 1, by go_num, by omega, hq⟩, by simp [intOf]; omega⟩
  ·have hq := hide (all_done (by omega) hE.out)
   go_wp2_with fail
   go_ret
   exact ⟨by rw [hq.out]; rfl, rfl⟩
theorem has_any {w : World} {B : Nat} {A : Option Addr} {c : Nat} {l : List Int} (n : Int) (h : Sl w B 1 encI A l) :
  Calls Tryz.prog 92 #[.slice A l.length c, .int .i64 n] w fun e w' => e = .returned (.bool (decide (n ∈ l))) ∧ w = w' := by
 have hn := h.1
 go_enter Tryz.func92, Tryz.ntmps92
 go_wp2_with fail
 go_loop [5] (fun ii => ∃ (k : Nat), ii = .int .i64 (k : Int) ∧ k ≤ l.length ∧ Hid (n ∉ l.take k)) (fun ii => l.length - (intOf ii).toNat)
 case atStart => exact ⟨0, rfl, Nat.zero_le _, hide (by simp)⟩
 case round =>
  obtain ⟨k, rfl, hk, hE⟩ := hrel
  by_cases hlt : k < l.length
  ·obtain ⟨b, off, x, rfl, hbb, hx, hc⟩ := h.at hlt
   have hc0 := hc 0 (by omega)
   simp only [Nat.mul_one, Nat.add_zero, encI] at hc0
   have hX := hide hx
   clear hx hc
   by_cases h0 : x = n
   ·subst h0
    have hq := hide (decide_eq_true (List.mem_of_getElem? hX.out))
    go_wp2_with fail
    go_ret
    exact ⟨by rw [hq.out]; rfl, rfl⟩
   ·have hq := hide (show n ∉ l.take (k + 1) from by
     rw [take_snoc hX.out, List.mem_append, List.mem_singleton]
     rintro (h1 | h1)
     ·exact hE.out h1
     ·exact h0 h1.symm)
    have hne : (x == n) = false := by simpa using h0
    clear h0
    go_wp2_with fail
    exact ⟨⟨k + 1, by go_num, by omega, hq⟩, by simp [intOf]; omega⟩
  ·have hq := hide (show decide (n ∈ l) = false from by
    have := hE.out
    rw [List.take_of_length_le (by omega)] at this
    simpa using this)
   go_wp2_with fail
   go_ret
   exact ⟨by rw [hq.out]; rfl, rfl⟩
end Go.Proofs.YtakpmdmjbgipiaaGreatDoor
namespace Go.Proofs.YtakpmdmjbgipiaaGreatDoor
open Go.RowKit
def Marks (w : World) (B : Nat) (u : Value) (m : List Bool) : Prop := ∃ g, g < B ∧ u = .slice (some ⟨g, 0, none⟩) m.length m.length ∧ Blk w g 4 (m.map Value.bool).toArray
theorem Marks.cell {w : World} {g : Nat} {m : List Bool} (h : Blk w g 4 (m.map Value.bool).toArray) {q : Nat} {b : Bool} (hq : m[q]? = some b) : w.cell? ⟨g, q, none⟩ = some (.bool b) := by
 rw [h.cell]
 simp [hq]
theorem Marks.keep {w w' : World} {B B' : Nat} {u : Value} {m : List Bool} (h : Marks w B u m) (hb : Below B w w') (hB : B ≤ B') : Marks w' B' u m := by
 obtain ⟨g, hg, e, hB1⟩ := h
 exact ⟨g, by omega, e, hB1.at hg hb⟩
theorem Marks.sl {w : World} {B : Nat} {u : Value} {m : List Bool} (h : Marks w B u m) (hm : m.length ≤ 4000000) : ∃ A c, u = .slice A m.length c ∧ Sl w B 1 encB A m := by
 obtain ⟨g, hg, rfl, hb⟩ := h
 refine ⟨_, _, rfl, by omega, fun _ => ⟨g, 0, rfl, hg, fun k d hd j hj => ?_⟩⟩
 obtain rfl : j = 0 := by omega
 have := Marks.cell hb hd
 simpa [encB] using this
theorem marks_new (n : Nat) : Array.replicate n (Value.bool false) = ((List.replicate n false).map Value.bool).toArray := by
 apply Array.ext'
 simp
theorem marks_set (m : List Bool) (q : Nat) : ((m.map Value.bool).toArray).setIfInBounds q (.bool true) = ((m.set q true).map Value.bool).toArray := by
 apply Array.ext'
 simp [List.map_set]
theorem marksM_nil (n : Nat) : marksM n [] = List.replicate n false := by
 apply List.ext_getElem?
 intro i
 rcases Nat.lt_or_ge i n with hi | hi
 ·rw [marksM_get hi, List.getElem?_replicate]; simp [hi]
 ·rw [List.getElem?_eq_none (by rw [marksM_len]; exact hi), List.getElem?_eq_none (by simpa using hi)]
theorem marksM_snoc {n : Nat} (l : List Int) (q : Nat) : marksM n (l ++ [(q : Int)]) = (marksM n l).set q true := by
 apply List.ext_getElem?
 intro i
 rcases Nat.lt_or_ge i n with hi | hi
 ·rw [marksM_get hi, List.getElem?_set]
  by_cases h : q = i
  ·subst h
   simp [marksM_len, hi]
  ·rw [if_neg h, marksM_get hi]
   congr 1
   refine decide_eq_decide.2 ?_
   simp only [List.mem_append, List.mem_singleton]
   constructor
   ·rintro (h1 | h1)
    ·exact h1
    ·omega
   ·exact .inl
 ·rw [List.getElem?_eq_none (by rw [marksM_len]; exact hi), List.getElem?_eq_none (by simp [marksM_len]; exact hi)]
def MarksRet (w : World) (n : Nat) (l : List Int) (r : Value) (w' : World) : Prop := Below w.heap.size w w' ∧ Marks w' w'.heap.size r (marksM n l) ∧ ∀ g, r.ownBlock = some g → w.heap.size ≤ g
theorem marks_any {w : World} {B : Nat} {A : Option Addr} {c : Nat} {l : List Int} {n : Nat} (h : Sl w B 1 encI A l) (hB : B ≤ w.heap.size) (hn : n ≤ 200000) (hin : ∀ x ∈ l, inN n x = true) :
  Calls Tryz.prog 49 #[.int .i64 (n : Int), .slice A l.length c] w (Ret fun r w' => MarksRet w n l r w') := by
 have hln := h.1
 obtain ⟨g, w1, hmk, hbl, hb1, hg⟩ := mk_bools w n (by omega)
 rw [marks_new, ← marksM_nil] at hbl
 have hblH := hide hbl
 have hgl := hbl.lt
 have hsz := hb1.size
 have hI := hide hin
 clear hbl hin
 go_enter Tryz.func49, Tryz.ntmps49
 go_wp2_with fail
 go_loopw [12] (fun ii wr => ∃ (k : Nat), ii = .int .i64 (k : Int) ∧ k ≤ l.length ∧ Hid (Blk wr g 4 ((marksM n (l.take k)).map Value.bool).toArray) ∧ Kept w1 wr (fun k => k = g)) (fun ii _ => l.length - (intOf ii).toNat)
 case atStart => exact ⟨0, rfl, Nat.zero_le _, hblH, Kept.refl _ _⟩
 case round =>
  obtain ⟨k, rfl, hk, hM, hK⟩ := hrel
  have hbb := hb1.trans (hK.below (B := w.heap.size) (by omega) (fun k' h1 (e : k' = g) => by omega))
  by_cases hlt : k < l.length
  ·obtain ⟨b, off, x, rfl, hbk, hx, hc⟩ := h.at hlt
   have hc0 := (hbb.cell (by show b < _; omega)).trans (hc 0 (by omega))
   simp only [Nat.mul_one, Nat.add_zero, encI] at hc0
   obtain ⟨q, rfl, hq⟩ := inN_nat (hI.out x (List.mem_of_getElem? hx))
   simp only [Int.toNat_natCast] at hq
   obtain ⟨bq, hbq⟩ := get_lt (l := marksM n (l.take k)) (i := q) (by rw [marksM_len]; exact hq)
   have hcq := Marks.cell hM.out hbq
   have hfr := hM.out.frozen q
   have hX := hide hx
   clear hx hc hbq
   go_wp2_with fail
   refine ⟨⟨k + 1, by go_num, by omega, ?_, hK.setCell (fun _ => rfl) _⟩, by simp [intOf]; omega⟩
   have := hM.out.set_ q (.bool true)
   rw [marks_set] at this
   show Blk _ _ _ _
   rw [take_snoc hX.out, marksM_snoc]
   exact this
  ·have hM2 := hM.out
   rw [List.take_of_length_le (by omega)] at hM2
   have hM3 := hide hM2
   clear hM2
   go_wp2_with fail
   go_ret
   refine ⟨hbb, ⟨g, hM3.out.lt, by rw [marksM_len]; rfl, hM3.out⟩, fun g' hg' => ?_⟩
   simp [Value.ownBlock] at hg'
   omega
theorem refMarks_any {w : World} {B : Nat} {A : Option Addr} {c : Nat} {l : List Int} {n : Nat} (h : Sl w B 1 encI A l) (hB : B ≤ w.heap.size) (hn : n ≤ 200000) (hin : ∀ x ∈ l, inN n x = true) :
  Calls Tryz.prog 86 #[.slice A l.length c, .int .i64 (n : Int)] w (Ret fun r w' => MarksRet w n l r w') := by
 have hln := h.1
 obtain ⟨g, w1, hmk, hbl, hb1, hg⟩ := mk_bools w n (by omega)
 rw [marks_new, ← marksM_nil] at hbl
 have hblH := hide hbl
 have hgl := hbl.lt
 have hsz := hb1.size
 have hI := hide hin
 clear hbl hin
 go_enter Tryz.func86, Tryz.ntmps86
 go_wp2_with fail
 go_loopw [6] (fun ii wr => ∃ (k : Nat), ii = .int .i64 (k : Int) ∧ k ≤ l.length ∧ Hid (Blk wr g 4 ((marksM n (l.take k)).map Value.bool).toArray) ∧ Kept w1 wr (fun k => k = g)) (fun ii _ => l.length - (intOf ii).toNat)
 case atStart => exact ⟨0, rfl, Nat.zero_le _, hblH, Kept.refl _ _⟩
 case round =>
  obtain ⟨k, rfl, hk, hM, hK⟩ := hrel
  have hbb := hb1.trans (hK.below (B := w.heap.size) (by omega) (fun k' h1 (e : k' = g) => by omega))
  by_cases hlt : k < l.length
  ·obtain ⟨b, off, x, rfl, hbk, hx, hc⟩ := h.at hlt
   have hc0 := (hbb.cell (by show b < _; omega)).trans (hc 0 (by omega))
   simp only [Nat.mul_one, Nat.add_zero, encI] at hc0
   obtain ⟨q, rfl, hq⟩ := inN_nat (hI.out x (List.mem_of_getElem? hx))
   simp only [Int.toNat_natCast] at hq
   obtain ⟨bq, hbq⟩ := get_lt (l := marksM n (l.take k)) (i := q) (by rw [marksM_len]; exact hq)
   have hcq := Marks.cell hM.out hbq
   have hfr := hM.out.frozen q
   have hX := hide hx
   clear hx hc hbq
   go_wp2_with fail
   refine ⟨⟨k + 1, by go_num, by omega, ?_, hK.setCell (fun _ => rfl) _⟩, by simp [intOf]; omega⟩
   have := hM.out.set_ q (.bool true)
   rw [marks_set] at this
   show Blk _ _ _ _
   rw [take_snoc hX.out, marksM_snoc]
   exact this
  ·have hM2 := hM.out
   rw [List.take_of_length_le (by omega)] at hM2
   have hM3 := hide hM2
   clear hM2
   go_wp2_with fail
   go_ret
   refine ⟨hbb, ⟨g, hM3.out.lt, by rw [marksM_len]; rfl, hM3.out⟩, fun g' hg' => ?_⟩
   simp [Value.ownBlock] at hg'
   omega
end Go.Proofs.YtakpmdmjbgipiaaGreatDoor
