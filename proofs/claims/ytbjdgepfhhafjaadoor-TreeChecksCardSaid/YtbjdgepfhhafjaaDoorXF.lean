/-
  Part XF of a proof.
-/
import Derived.Test.YtbjdgepfhhafjaaDoorProg
import Derived.Shelf.Strings.Fields
import Derived.Lib.AppendIntMem
import Derived.Laws.RangeAny
import Derived.BigQuiet
import Derived.Test.YtbjdgepfhhafjaaDoorXA
import Derived.Test.YtbjdgepfhhafjaaDoorXB
import Derived.Test.YtbjdgepfhhafjaaDoorXC
set_option maxHeartbeats 16000000
set_option maxRecDepth 100000
set_option linter.unusedVariables false
set_option linter.unusedSimpArgs false
namespace Go.Proofs.YtbjdgepfhhafjaaDoor
open Go.RowKit
def aggLin (l : Lin) : Value := .agg #[.int .i64 l.c, .int .i64 l.n, .int .i64 l.t, .int .i64 l.f]
theorem linB_of {l : Lin} {b1 b2 b3 b4 : Bool} (h1 : facB l.c = b1) (h2 : facB l.n = b2) (h3 : facB l.t = b3) (h4 : facB l.f = b4) : linB l = (b1 && b2 && b3 && b4) := by
 unfold linB
 rw [h1, h2, h3, h4]
theorem bounded_any (l : Lin) (w : World) : Calls Tryd.prog 39 #[aggLin l] w (Ret fun r w' => r = .bool (linB l) ∧ Below w.heap.size w w') := by
 obtain ⟨c, n, t, f⟩ := l
 unfold aggLin
 obtain ⟨w1, hw1, hb1, hB1, hk1⟩ := box_blk w #[.int .i64 c, .int .i64 n, .int .i64 t, .int .i64 f] 83
 have hc1 := hB1.cell
 have hbH := hide hb1
 clear hb1
 cases h1 : facB c <;> cases h2 : facB n <;> cases h3 : facB t <;> cases h4 : facB f
 all_goals
  have hL := hide (linB_of (l := ⟨c, n, t, f⟩) h1 h2 h3 h4)
  have H1 := hide h1
  have H2 := hide h2
  have H3 := hide h3
  have H4 := hide h4
  clear h1 h2 h3 h4
  go_enter Tryd.func39, Tryd.ntmps39
  go_wp2_with (go_at_call 61; refine (factor_any _ _).mono ?_; rintro e w' ⟨rfl, rfl⟩; first | rw [H1.out] | rw [H2.out] | rw [H3.out] | rw [H4.out])
  go_ret
  exact ⟨by rw [hL.out]; rfl, hbH.out⟩
theorem few_any (l : Lin) (w : World) : Calls Tryd.prog 46 #[aggLin l] w (Ret fun r w' => r = .bool (linB l) ∧ Below w.heap.size w w') := by
 obtain ⟨c, n, t, f⟩ := l
 unfold aggLin
 obtain ⟨w1, hw1, hb1, hB1, hk1⟩ := box_blk w #[.int .i64 c, .int .i64 n, .int .i64 t, .int .i64 f] 83
 have hc1 := hB1.cell
 have hbH := hide hb1
 clear hb1
 cases h1 : facB c <;> cases h2 : facB n <;> cases h3 : facB t <;> cases h4 : facB f
 all_goals
  have hL := hide (linB_of (l := ⟨c, n, t, f⟩) h1 h2 h3 h4)
  have H1 := hide (show inC c (-100) 100 = _ from h1)
  have H2 := hide (show inC n (-100) 100 = _ from h2)
  have H3 := hide (show inC t (-100) 100 = _ from h3)
  have H4 := hide (show inC f (-100) 100 = _ from h4)
  clear h1 h2 h3 h4
  go_enter Tryd.func46, Tryd.ntmps46
  go_wp2_with (go_at_call 32; refine (within2_any _ _ _ _).mono ?_; rintro e w' ⟨rfl, rfl⟩; first | rw [H1.out] | rw [H2.out] | rw [H3.out] | rw [H4.out])
  go_ret
  exact ⟨by rw [hL.out]; rfl, hbH.out⟩
theorem indexI_any {w : World} {B c : Nat} {A : Option Addr} {l : List Int} {x : Int} (h : Sl w B 1 encI A l) : Calls Tryd.prog 43 #[.slice A l.length c, .int .i64 x] w fun r w' => (∃ z : Int, r = .returned (.int .i64 z) ∧ (0 ≤ z ↔ x ∈ l)) ∧ w = w' := by
 have hH := hide h
 have hn := h.1
 clear h
 go_enter Tryd.func43, Tryd.ntmps43
 go_wp2_with fail
 go_loopw [8] (fun ii wr => ∃ (k : Nat), ii = .int .i64 (k : Int) ∧ k ≤ l.length ∧ w = wr ∧ Hid (x ∉ l.take k)) (fun ii _ => l.length - (intOf ii).toNat)
 case atStart => exact ⟨0, rfl, Nat.zero_le _, (by first | rfl | trivial), by show ¬ _; simp⟩
 case round =>
  obtain ⟨k, rfl, hk, rfl, hE⟩ := hrel
  by_cases hlt : k < l.length
  ·obtain ⟨b, off, e, hA, hbk, he, hc⟩ := hH.out.at hlt
   have d0 := hc 0 (by omega)
   simp only [Nat.add_zero, Nat.mul_one, encI] at d0
   have heH := hide he
   subst hA
   clear hc he
   by_cases h0 : x = e
   ·have hZ := hide h0
    clear h0
    have hq : (x == e) = true := by simp [hZ.out]
    go_wp2_with fail
    go_ret
    exact ⟨⟨(k : Int), rfl, fun _ => by rw [hZ.out]; exact List.mem_of_getElem? heH.out, fun _ => by omega⟩, rfl⟩
   ·have hZ := hide h0
    have hq : (x == e) = false := by simp [h0]
    clear h0
    go_wp2_with fail
    exact ⟨⟨k + 1, by go_num, by omega, (by first | rfl | trivial), mem_take_no heH.out hE.out (fun e => hZ.out e.symm)⟩, by simp [intOf]; omega⟩
  ·have e : k = l.length := by omega
   have hE2 := hE.out
   rw [e, List.take_length] at hE2
   have hE3 := hide hE2
   clear hE2 e
   go_wp2_with fail
   go_ret
   exact ⟨⟨-1, rfl, fun h => by omega, fun h => absurd h hE3.out⟩, rfl⟩
theorem containsI_any {w : World} {B c : Nat} {A : Option Addr} {l : List Int} {x : Int} (h : Sl w B 1 encI A l) : Calls Tryd.prog 23 #[.slice A l.length c, .int .i64 x] w fun r w' => r = .returned (.bool (decide (x ∈ l))) ∧ w = w' := by
 have hH := hide h
 have hn := h.1
 clear h
 go_enter Tryd.func23, Tryd.ntmps23
 go_wp2_with (go_at_call 43; refine (indexI_any hH.out).mono ?_; rintro r w' ⟨⟨z, rfl, hz⟩, rfl⟩)
 have hzH := hide hz
 clear hz
 go_ret
 refine ⟨?_, rfl⟩
 have : decide (x ∈ l) = decide (0 ≤ z) := decide_eq_decide.2 hzH.out.symm
 rw [this]
 first | rfl | trace_state
theorem indexS_any {w : World} {B c : Nat} {A : Option Addr} {l : List ByteArray} {x : ByteArray} (h : Sl w B 1 encS A l) : Calls Tryd.prog 77 #[.slice A l.length c, .string x] w fun r w' => (∃ z : Int, r = .returned (.int .i64 z) ∧ (0 ≤ z ↔ x ∈ l)) ∧ w = w' := by
 have hH := hide h
 have hn := h.1
 clear h
 go_enter Tryd.func77, Tryd.ntmps77
 go_wp2_with fail
 go_loopw [8] (fun ii wr => ∃ (k : Nat), ii = .int .i64 (k : Int) ∧ k ≤ l.length ∧ w = wr ∧ Hid (x ∉ l.take k)) (fun ii _ => l.length - (intOf ii).toNat)
 case atStart => exact ⟨0, rfl, Nat.zero_le _, (by first | rfl | trivial), by show ¬ _; simp⟩
 case round =>
  obtain ⟨k, rfl, hk, rfl, hE⟩ := hrel
  by_cases hlt : k < l.length
  ·obtain ⟨b, off, e, hA, hbk, he, hc⟩ := hH.out.at hlt
   have d0 := hc 0 (by omega)
   simp only [Nat.add_zero, Nat.mul_one, encS] at d0
   have heH := hide he
   subst hA
   clear hc he
   by_cases h0 : x = e
   ·have hZ := hide h0
    clear h0
    have hq : (x.toList == e.toList) = true := by rw [bytes_eq]; exact decide_eq_true hZ.out
    go_wp2_with fail
    go_ret
    exact ⟨⟨(k : Int), rfl, fun _ => by rw [hZ.out]; exact List.mem_of_getElem? heH.out, fun _ => by omega⟩, rfl⟩
   ·have hZ := hide h0
    have hq : (x.toList == e.toList) = false := by rw [bytes_eq]; exact decide_eq_false h0
    clear h0
    go_wp2_with fail
    exact ⟨⟨k + 1, by go_num, by omega, (by first | rfl | trivial), mem_take_no heH.out hE.out (fun e => hZ.out e.symm)⟩, by simp [intOf]; omega⟩
  ·have e : k = l.length := by omega
   have hE2 := hE.out
   rw [e, List.take_length] at hE2
   have hE3 := hide hE2
   clear hE2 e
   go_wp2_with fail
   go_ret
   exact ⟨⟨-1, rfl, fun h => by omega, fun h => absurd h hE3.out⟩, rfl⟩
theorem containsS_any {w : World} {B c : Nat} {A : Option Addr} {l : List ByteArray} {x : ByteArray} (h : Sl w B 1 encS A l) : Calls Tryd.prog 60 #[.slice A l.length c, .string x] w fun r w' => r = .returned (.bool (decide (x ∈ l))) ∧ w = w' := by
 have hH := hide h
 have hn := h.1
 clear h
 go_enter Tryd.func60, Tryd.ntmps60
 go_wp2_with (go_at_call 77; refine (indexS_any hH.out).mono ?_; rintro r w' ⟨⟨z, rfl, hz⟩, rfl⟩)
 have hzH := hide hz
 clear hz
 go_ret
 refine ⟨?_, rfl⟩
 have : decide (x ∈ l) = decide (0 ≤ z) := decide_eq_decide.2 hzH.out.symm
 rw [this]
 first | rfl | trace_state
end Go.Proofs.YtbjdgepfhhafjaaDoor
namespace Go.Proofs
open Go.Shelf
def Tryd.lays157_ren : Go.Shelf.Ren := ⟨fun | 157 => 70 | 229 => 80 | 199 => 81 | 261 => 83 | 311 => 84 | 312 => 85 | n => n, fun | 9 => 9 | 31 => 22 | 3 => 3 | 5 => 5 | 4 => 4 | 119 => 127 | 0 => 0 | 40 => 129 | 152 => 135 | 21 => 21 | 154 => 137 | 51 => 138 | 141 => 140 | 196 => 144 | 193 => 141 | 198 => 147 | 49 => 145 | 194 => 142 | 201 => 150 | 226 => 152 | 46 => 133 | 227 => 153 | n => n, fun | 0 => 0 | 6 => 1 | n => n⟩
theorem Tryd.lays157 : Go.Proofs.Lays.n157 Tryd.prog Tryd.lays157_ren := {
 mixed := by kernel_rfl
 f157 := Tryd.func70.trans (congrArg some (by kernel_rfl))
 f199 := Tryd.func81.trans (congrArg some (by kernel_rfl))
 f229 := Tryd.func80.trans (congrArg some (by kernel_rfl))
 f261 := Tryd.func83.trans (congrArg some (by kernel_rfl))
 f311 := Tryd.func84.trans (congrArg some (by kernel_rfl))
 f312 := Tryd.func85.trans (congrArg some (by kernel_rfl))
 t0 := Tryd.underlying0
 a0 := Tryd.isAgg0
 z0 := Tryd.sizeOf0
 v0 := Tryd.zeroValue0
 t3 := Tryd.underlying3
 a3 := Tryd.isAgg3
 z3 := Tryd.sizeOf3
 v3 := Tryd.zeroValue3
 t4 := Tryd.underlying4
 a4 := Tryd.isAgg4
 z4 := Tryd.sizeOf4
 v4 := Tryd.zeroValue4
 t5 := Tryd.underlying5
 a5 := Tryd.isAgg5
 z5 := Tryd.sizeOf5
 v5 := Tryd.zeroValue5
 t9 := Tryd.underlying9
 a9 := Tryd.isAgg9
 z9 := Tryd.sizeOf9
 v9 := Tryd.zeroValue9
 t21 := Tryd.underlying21
 a21 := Tryd.isAgg21
 z21 := Tryd.sizeOf21
 v21 := Tryd.zeroValue21
 t31 := Tryd.underlying22
 a31 := Tryd.isAgg22
 z31 := Tryd.sizeOf22
 v31 := Tryd.zeroValue22
 t40 := Tryd.underlying129
 a40 := Tryd.isAgg129
 z40 := Tryd.sizeOf129
 v40 := Tryd.zeroValue129
 t46 := Tryd.underlying133
 a46 := Tryd.isAgg133
 z46 := Tryd.sizeOf133
 v46 := Tryd.zeroValue133
 t49 := Tryd.underlying145
 a49 := Tryd.isAgg145
 z49 := Tryd.sizeOf145
 v49 := Tryd.zeroValue145
 t51 := Tryd.underlying138
 a51 := Tryd.isAgg138
 z51 := Tryd.sizeOf138
 v51 := Tryd.zeroValue138
 t119 := Tryd.underlying127
 a119 := Tryd.isAgg127
 z119 := Tryd.sizeOf127
 t141 := Tryd.underlying140
 a141 := Tryd.isAgg140
 z141 := Tryd.sizeOf140
 v141 := Tryd.zeroValue140
 t152 := Tryd.underlying135
 a152 := Tryd.isAgg135
 z152 := Tryd.sizeOf135
 v152 := Tryd.zeroValue135
 t154 := Tryd.underlying137
 a154 := Tryd.isAgg137
 z154 := Tryd.sizeOf137
 v154 := Tryd.zeroValue137
 t193 := Tryd.underlying141
 a193 := Tryd.isAgg141
 z193 := Tryd.sizeOf141
 v193 := Tryd.zeroValue141
 t194 := Tryd.underlying142
 a194 := Tryd.isAgg142
 z194 := Tryd.sizeOf142
 v194 := Tryd.zeroValue142
 t196 := Tryd.underlying144
 a196 := Tryd.isAgg144
 z196 := Tryd.sizeOf144
 v196 := Tryd.zeroValue144
 t198 := Tryd.underlying147
 a198 := Tryd.isAgg147
 z198 := Tryd.sizeOf147
 v198 := Tryd.zeroValue147
 t201 := Tryd.underlying150
 a201 := Tryd.isAgg150
 z201 := Tryd.sizeOf150
 v201 := Tryd.zeroValue150
 t226 := Tryd.underlying152
 a226 := Tryd.isAgg152
 z226 := Tryd.sizeOf152
 v226 := Tryd.zeroValue152
 t227 := Tryd.underlying153
 a227 := Tryd.isAgg153
 z227 := Tryd.sizeOf153
 v227 := Tryd.zeroValue153
 g0 := by kernel_rfl
 g6 := by kernel_rfl }
theorem Tryd.hi157 : (Tryd.prog.info? (Tryd.lays157_ren.t 9)).map (fun i => (i.zero, i.size, i.bytes)) = some (some (.string ByteArray.empty), 1, 16) := by kernel_rfl
theorem Tryd.hg157 : Tryd.prog.globalNamed "strings.asciiSpace" = some (Tryd.lays157_ren.g 0) := by kernel_rfl
end Go.Proofs
namespace Go.Proofs.YtbjdgepfhhafjaaDoor
open Go.RowKit
def resL : List (List UInt8) := [
 [112, 114, 111, 116, 111, 99, 111, 108],
 [116, 111, 112, 111, 108, 111, 103, 121],
 [115, 116, 97, 116, 101, 115],
 [109, 101, 115, 115, 97, 103, 101, 115],
 [118, 97, 108, 117, 101, 115],
 [102, 97, 117, 108, 116, 115],
 [114, 101, 115, 105, 108, 105, 101, 110, 99, 101],
 [105, 110, 105, 116, 105, 97, 108],
 [108, 101, 97, 100, 101, 114],
 [114, 117, 108, 101],
 [108, 111, 99, 97, 108],
 [112, 97, 105, 114],
 [98, 114, 111, 97, 100, 99, 97, 115, 116],
 [110, 101, 105, 103, 104, 98, 111, 114],
 [112, 97, 115, 115],
 [119, 104, 101, 110],
 [101, 120, 105, 115, 116, 115],
 [102, 111, 114, 97, 108, 108],
 [114, 101, 97, 100],
 [119, 114, 105, 116, 101],
 [115, 101, 110, 100],
 [97, 108, 108],
 [97, 116],
 [102, 105, 114, 115, 116],
 [108, 97, 115, 116],
 [108, 101, 102, 116],
 [114, 105, 103, 104, 116],
 [112, 97, 114, 101, 110, 116],
 [99, 104, 105, 108, 100],
 [112, 114, 111, 112, 101, 114, 116, 121],
 [110, 101, 118, 101, 114],
 [101, 118, 101, 110, 116, 117, 97, 108, 108, 121],
 [115, 116, 97, 114, 116],
 [99, 111, 117, 110, 116],
 [97, 100, 106, 97, 99, 101, 110, 116],
 [103, 111, 97, 108],
 [99, 108, 105, 113, 117, 101],
 [108, 105, 110, 101],
 [114, 105, 110, 103],
 [116, 114, 101, 101],
 [99, 114, 97, 115, 104],
 [111, 109, 105, 115, 115, 105, 111, 110],
 [97, 114, 98, 105, 116, 114, 97, 114, 121]]
def resW : List ByteArray := resL.map fun l => ⟨l.toArray⟩
theorem resW_len : resW.length = 43 := rfl
def nameOK (s : ByteArray) : Bool := nameForm s.data.toList && !decide (s ∈ resW)
def SpOK (w : World) : Prop := Lib.TabIs Tryd.prog w "strings.asciiSpace" .u8 Lib.asciiSpaceTab
theorem SpOK.below {w w' : World} (h : SpOK w) (hb : Below w.heap.size w w') : SpOK w' := (Lib.tabBelow_of_tabIs h) w' hb
theorem fieldsR (s0 : ByteArray) (hf : Lib.fields s0.data.toList = resL) (ha : s0.data.toList.all (fun b => decide (b.toNat < 128)) = true) (hs : s0.size < 4294967281) (w : World) (hT : SpOK w) :
  Calls Tryd.prog 70 #[.string s0] w fun e w' => e = .returned (.slice (some ⟨w.heap.size, 0, none⟩) 43 43) ∧ w' = w.alloc (.cells (resW.map Value.string).toArray 9) := by
 have h := Any.strings_Fields Tryd.lays157 Tryd.hi157 Tryd.hg157 s0 w hs (fun j b hb => by
  have := List.all_eq_true.1 ha b (List.mem_of_getElem? hb)
  exact of_decide_eq_true this) hT
 refine h.mono ?_
 rintro e w' ⟨rfl, rfl⟩
 rw [hf]
 exact ⟨rfl, by rw [show resW.map Value.string = resL.map fun l => Value.string ⟨l.toArray⟩ from List.map_map ..]; rfl⟩
theorem res_sl (w : World) : Sl (w.alloc (.cells (resW.map Value.string).toArray 9)) (w.alloc (.cells (resW.map Value.string).toArray 9)).heap.size 1 encS (some ⟨w.heap.size, 0, none⟩) resW := by
 have hB : Blk (w.alloc (.cells (resW.map Value.string).toArray 9)) w.heap.size 9 (resW.map Value.string).toArray := Blk.new w 9 _
 refine ⟨by rw [resW_len]; decide, fun _ => ⟨w.heap.size, 0, rfl, hB.lt, fun k d hd j hj => ?_⟩⟩
 have hj0 : j = 0 := by omega
 subst hj0
 rw [hB.cell]
 simp [hd, encS]
theorem isReserved_any (s : ByteArray) (w : World) (hT : SpOK w) : Calls Tryd.prog 42 #[.string s] w (Ret fun r w' => r = .bool (decide (s ∈ resW)) ∧ Below w.heap.size w w') := by
 obtain ⟨w1, hw1⟩ : ∃ w1, w.alloc (.cells (resW.map Value.string).toArray 9) = w1 := ⟨_, rfl⟩
 have hS := hide (res_sl w)
 rw [hw1] at hS
 have hb : Below w.heap.size w w1 := by rw [← hw1]; exact (Below.refl _ _).alloc (Nat.le_refl _) _
 have hbH := hide hb
 have hW := hide hw1
 clear hb hw1
 go_enter Tryd.func42, Tryd.ntmps42
 go_wp2_with (first
  | (go_at_call 70; refine (fieldsR _ (by kernel_rfl) (by kernel_rfl) (by decide +kernel) w hT).mono ?_; rintro e w' ⟨rfl, rfl⟩; rw [hW.out])
  | (go_at_call 60; rw [← resW_len]; refine (containsS_any hS.out).mono ?_; rintro e w' ⟨rfl, rfl⟩))
 go_ret
 exact ⟨rfl, hbH.out⟩
end Go.Proofs.YtbjdgepfhhafjaaDoor
namespace Go.Proofs.YtbjdgepfhhafjaaDoor
open Go.RowKit
theorem reserved_any (w : World) : Calls Tryd.prog 49 #[] w fun e w' => e = .returned (.slice (some ⟨w.heap.size, 0, none⟩) 43 43) ∧ w' = w.alloc (.cells (resW.map Value.string).toArray 9) := by
 go_enter Tryd.func49, Tryd.ntmps49
 go_wp2
 go_ret
 exact ⟨rfl, rfl⟩
theorem name_short {s : ByteArray} (h : s.size = 0 ∨ 12 < s.size) : nameOK s = false := by
 have hl : s.data.toList.length = s.size := (Lib.size_eq s).symm
 unfold nameOK
 cases hb : s.data.toList with
 | nil => rfl
 | cons c l =>
  rw [hb, List.length_cons] at hl
  have : decide (l.length < 12) = false := decide_eq_false (by omega)
  simp [nameForm, this]
theorem name_first {s : ByteArray} {c : UInt8} (h : s.data.toList[0]? = some c) (hc : lowB c = false) : nameOK s = false := by
 unfold nameOK
 cases hb : s.data.toList with
 | nil => rfl
 | cons d l =>
  rw [hb] at h
  have : d = c := by simpa using h
  subst this
  simp [nameForm, hc]
theorem name_bad {s : ByteArray} {k : Nat} {c : UInt8} (h : s.data.toList[k]? = some c) (hc : nmB c = false) : nameOK s = false := by
 have hlow : lowB c = false := by
  unfold nmB at hc
  simp only [Bool.or_eq_false_iff] at hc
  exact hc.1.1
 cases k with
 | zero => exact name_first h hlow
 | succ k =>
  unfold nameOK
  cases hb : s.data.toList with
  | nil => rfl
  | cons d l =>
   rw [hb] at h
   have h2 : l[k]? = some c := by simpa using h
   have : l.all nmB = false := by
    rw [List.all_eq_false]
    exact ⟨c, List.mem_of_getElem? h2, by simp [hc]⟩
   simp [nameForm, this]
theorem name_end {s : ByteArray} {c : UInt8} (h0 : s.data.toList[0]? = some c) (hc : lowB c = true) (hl : s.size ≤ 12) (ha : s.data.toList.all nmB = true) : nameOK s = !decide (s ∈ resW) := by
 have hn : s.data.toList.length = s.size := (Lib.size_eq s).symm
 unfold nameOK
 cases hb : s.data.toList with
 | nil => rw [hb] at h0; cases h0
 | cons d l =>
  rw [hb] at h0 ha hn
  have : d = c := by simpa using h0
  subst this
  rw [List.length_cons] at hn
  rw [List.all_cons, Bool.and_eq_true] at ha
  have h12 : decide (l.length < 12) = true := decide_eq_true (by omega)
  simp [nameForm, h12, hc, ha.2]
theorem nmB_no {c : UInt8} (h1 : c.toNat < 97 ∨ 122 < c.toNat) (h2 : c.toNat < 48 ∨ 57 < c.toNat) (h3 : c.toNat ≠ 95) : nmB c = false := by
 unfold nmB lowB digB
 rw [Bool.eq_false_iff]
 simp
 omega
theorem nmB_yes {c : UInt8} (h : (97 ≤ c.toNat ∧ c.toNat ≤ 122) ∨ (48 ≤ c.toNat ∧ c.toNat ≤ 57) ∨ c.toNat = 95) : nmB c = true := by
 unfold nmB lowB digB
 simp
 omega
theorem lowB_no {c : UInt8} (h1 : c.toNat < 97 ∨ 122 < c.toNat) : lowB c = false := by
 unfold lowB
 rw [Bool.eq_false_iff]
 simp
 omega
theorem lowB_yes {c : UInt8} (h : 97 ≤ c.toNat ∧ c.toNat ≤ 122) : lowB c = true := by
 unfold lowB
 simp
 omega
theorem refValidName_any (s : ByteArray) (w : World) (hs : s.size ≤ 9223372036854775807) : Calls Tryd.prog 29 #[.string s] w (Ret fun r w' => r = .bool (nameOK s) ∧ Below w.heap.size w w') := by
 by_cases h0 : s.size = 0 ∨ 12 < s.size
 ·have hz := hide (name_short h0)
  have hin := hide (show inC (s.size : Int) 1 12 = false by simp [inC]; omega)
  clear h0
  go_enter Tryd.func29, Tryd.ntmps29
  go_wp2_with (go_at_call 32; refine (within2_any _ _ _ _).mono ?_; rintro e w' ⟨rfl, rfl⟩; rw [hin.out])
  go_ret
  exact ⟨by rw [hz.out]; rfl, Below.refl _ _⟩
 ·have h1 : 0 < s.size := by omega
  have h12 : s.size ≤ 12 := by omega
  have hin := hide (show inC (s.size : Int) 1 12 = true by simp [inC]; omega)
  clear h0
  obtain ⟨c, hc⟩ : ∃ c : UInt8, s[0] = c := ⟨_, rfl⟩
  have hc0 := hide (show s.data.toList[0]? = some c by rw [← hc]; exact Lib.data_getElem? s 0 h1)
  by_cases hlo : c.toNat < 97
  ·have hz := hide (name_first hc0.out (lowB_no (.inl hlo)))
   go_enter Tryd.func29, Tryd.ntmps29
   go_wp2_with (go_at_call 32; refine (within2_any _ _ _ _).mono ?_; rintro e w' ⟨rfl, rfl⟩; rw [hin.out])
   go_ret
   exact ⟨by rw [hz.out]; rfl, Below.refl _ _⟩
  by_cases hhi : 122 < c.toNat
  ·have hz := hide (name_first hc0.out (lowB_no (.inr hhi)))
   go_enter Tryd.func29, Tryd.ntmps29
   go_wp2_with (go_at_call 32; refine (within2_any _ _ _ _).mono ?_; rintro e w' ⟨rfl, rfl⟩; rw [hin.out])
   go_ret
   exact ⟨by rw [hz.out]; rfl, Below.refl _ _⟩
  have hlow := hide (lowB_yes (c := c) ⟨by omega, by omega⟩)
  obtain ⟨w1, hw1⟩ : ∃ w1, w.alloc (.cells (resW.map Value.string).toArray 9) = w1 := ⟨_, rfl⟩
  have hS := hide (res_sl w)
  rw [hw1] at hS
  have hb : Below w.heap.size w w1 := by rw [← hw1]; exact (Below.refl _ _).alloc (Nat.le_refl _) _
  have hbH := hide hb
  have hW := hide hw1
  clear hb hw1
  go_enter Tryd.func29, Tryd.ntmps29
  go_wp2_with (go_at_call 32; refine (within2_any _ _ _ _).mono ?_; rintro e w' ⟨rfl, rfl⟩; rw [hin.out])
  go_loopw [3] (fun ii wr => ∃ (k : Nat), ii = .int .i64 (k : Int) ∧ k ≤ s.size ∧ w = wr ∧ Hid ((s.data.toList.take k).all nmB = true)) (fun ii _ => s.size - (intOf ii).toNat)
  case atStart => exact ⟨0, rfl, Nat.zero_le _, (by first | rfl | trivial), by show _ = _; simp⟩
  case round =>
   obtain ⟨k, rfl, hk, rfl, hE⟩ := hrel
   by_cases hlt : k < s.size
   case neg =>
    have e : k = s.size := by omega
    have hE2 := hE.out
    rw [e, List.take_of_length_le (by rw [← Lib.size_eq]; exact Nat.le_refl _)] at hE2
    have hE3 := hide hE2
    clear hE2 e
    have hz := hide (name_end hc0.out hlow.out h12 hE3.out)
    go_wp2_with (first
     | (go_at_call 49; refine (reserved_any _).mono ?_; rintro e w' ⟨rfl, rfl⟩; rw [hW.out])
     | (go_at_call 45; rw [← resW_len]; refine (hasText_any hS.out).mono ?_; rintro e w' ⟨rfl, rfl⟩))
    go_ret
    exact ⟨by rw [hz.out]; rfl, hbH.out⟩
   obtain ⟨x, hx⟩ : ∃ x : UInt8, s[k] = x := ⟨_, rfl⟩
   have hxH := hide (show s.data.toList[k]? = some x by rw [← hx]; exact Lib.data_getElem? s k hlt)
   by_cases q1 : (x.toNat : Int) < 48
   ·have f95 : ((x.toNat : Int) != 95) = true := by simp; omega
    have hz := hide (name_bad hxH.out (nmB_no (by omega) (by omega) (by omega)))
    go_wp2_with fail
    go_ret
    exact ⟨by rw [hz.out]; rfl, Below.refl _ _⟩
   by_cases q2 : (x.toNat : Int) ≤ 57
   ·have hz := hide (all_take_more (p := nmB) hxH.out hE.out (nmB_yes (by omega)))
    go_wp2_with fail
    exact ⟨⟨k + 1, by go_num, by omega, (by first | rfl | trivial), hz.out⟩, by simp [intOf]; omega⟩
   by_cases q3 : (x.toNat : Int) < 97
   ·by_cases q4 : (x.toNat : Int) = 95
    ·have hz := hide (all_take_more (p := nmB) hxH.out hE.out (nmB_yes (by omega)))
     go_wp2_with fail
     exact ⟨⟨k + 1, by go_num, by omega, (by first | rfl | trivial), hz.out⟩, by simp [intOf]; omega⟩
    ·have f95 : ((x.toNat : Int) != 95) = true := by simp; omega
     have hz := hide (name_bad hxH.out (nmB_no (by omega) (by omega) (by omega)))
     go_wp2_with fail
     go_ret
     exact ⟨by rw [hz.out]; rfl, Below.refl _ _⟩
   by_cases q5 : (x.toNat : Int) ≤ 122
   ·have hz := hide (all_take_more (p := nmB) hxH.out hE.out (nmB_yes (by omega)))
    go_wp2_with fail
    exact ⟨⟨k + 1, by go_num, by omega, (by first | rfl | trivial), hz.out⟩, by simp [intOf]; omega⟩
   ·have f95 : ((x.toNat : Int) != 95) = true := by simp; omega
    have hz := hide (name_bad hxH.out (nmB_no (by omega) (by omega) (by omega)))
    go_wp2_with fail
    go_ret
    exact ⟨by rw [hz.out]; rfl, Below.refl _ _⟩
end Go.Proofs.YtbjdgepfhhafjaaDoor
namespace Go.Proofs.YtbjdgepfhhafjaaDoor
open Go.RowKit
theorem iter_below (w : World) (s : ByteArray) (k : Nat) : Below w.heap.size w (w.iter s k) := (Below.refl _ _).alloc (Nat.le_refl _) _
theorem size_zero {s : ByteArray} (h : s.size = 0) : s = ⟨#[]⟩ := by
 obtain ⟨d⟩ := s
 have : d.size = 0 := h
 rw [Array.size_eq_zero_iff.1 this]
theorem validName_any (s : ByteArray) (w : World) (hs : s.size ≤ 9223372036854775807) (hT : SpOK w) : Calls Tryd.prog 21 #[.string s] w (Ret fun r w' => r = .bool (nameOK s) ∧ Below w.heap.size w w') := by
 have hTH := hide hT
 clear hT
 by_cases h0 : s.size = 0
 ·have hz := hide (name_short (.inl h0))
  have hq2 : s.toList = [] := by rw [ByteArray.toList_eq, size_zero h0]
  have hq : s.toList.isEmpty = true := by rw [hq2]; rfl
  go_enter Tryd.func21, Tryd.ntmps21
  go_wp2_with fail
  go_ret
  exact ⟨by rw [hz.out]; rfl, Below.refl _ _⟩
 have hq2 : ¬ s.toList = [] := fun e => h0 (by
  rw [ByteArray.toList_eq] at e
  have := Lib.size_eq s
  rw [e] at this
  exact this)
 have hq : s.toList.isEmpty = false := by
  cases h : s.toList
  ·exact absurd h hq2
  ·rfl
 by_cases h12 : 12 < s.size
 ·have hz := hide (name_short (.inr h12))
  go_enter Tryd.func21, Tryd.ntmps21
  go_wp2_with fail
  go_ret
  exact ⟨by rw [hz.out]; rfl, Below.refl _ _⟩
 have h1 : 0 < s.size := by omega
 have h12' := hide (show s.size ≤ 12 by omega)
 go_enter Tryd.func21, Tryd.ntmps21
 go_wp2_with fail
 go_loopw [] (fun wr => ∃ (k : Nat), wr = w.iter s k ∧ k ≤ s.size ∧ Hid ((s.data.toList.take k).all nmB = true) ∧ Hid (0 < k → ∃ c, s.data.toList[0]? = some c ∧ lowB c = true)) (fun w' => s.size - w'.iterPos w.heap.size)
 case atStart => exact ⟨0, rfl, Nat.zero_le _, by show _ = _; simp, fun h => absurd h (by omega)⟩
 case round =>
  obtain ⟨k, rfl, hk, hE, hF⟩ := hrel
  by_cases hlt : k < s.size
  case neg =>
   have hnx : ∀ ty, (Instr.next (.pointer (some ⟨w.heap.size, 0, none⟩)) true ty).run Tryd.prog (w.iter s k) = _ := fun ty => run_next_end w s k ty hlt
   have e : k = s.size := by omega
   have hE2 := hE.out
   rw [e, List.take_of_length_le (by rw [← Lib.size_eq]; exact Nat.le_refl _)] at hE2
   obtain ⟨c, hc1, hc2⟩ := hF.out (by omega)
   have hz := hide (name_end hc1 hc2 h12'.out hE2)
   clear hE2 e hc1 hc2
   have hb := hide (iter_below w s k)
   have hT2 := hide (hTH.out.below hb.out)
   have hsz := hb.out.size
   go_wp2_with fail
   refine Calls.ret (isReserved_any s _ hT2.out) ?_
   rintro r w2 ⟨rfl, hb2⟩
   have hb2H := hide hb2
   clear hb2
   go_wp2_with fail
   go_ret
   exact ⟨by rw [hz.out]; rfl, hb.out.trans (hb2H.out.mono hsz)⟩
  obtain ⟨x, hx⟩ : ∃ x : UInt8, s[k] = x := ⟨_, rfl⟩
  have hxH := hide (show s.data.toList[k]? = some x by rw [← hx]; exact Lib.data_getElem? s k hlt)
  by_cases ha : x.toNat < 128
  ·have hnx : ∀ ty, (Instr.next (.pointer (some ⟨w.heap.size, 0, none⟩)) true ty).run Tryd.prog (w.iter s k) = .ok (.tuple #[.bool true, .int .i64 k, .int .i32 x.toNat]) (w.iter s (k + 1)) := fun ty => by
    rw [run_next_ascii w s k ty hlt (by rw [hx]; exact ha), hx]
   by_cases hk0 : k = 0
   ·have hkn : ((k : Int) == 0) = true := by simp; omega
    have hx0 := hide (show s.data.toList[0]? = some x by rw [← hk0]; exact hxH.out)
    clear hk0
    by_cases q1 : (x.toNat : Int) < 48
    ·have hz := hide (name_first hx0.out (lowB_no (by omega)))
     go_wp2_with fail
     go_ret
     exact ⟨by rw [hz.out]; rfl, (Below.refl _ _).alloc (Nat.le_refl _) _⟩
    by_cases q2 : (x.toNat : Int) ≤ 57
    ·have hz := hide (name_first hx0.out (lowB_no (by omega)))
     go_wp2_with fail
     go_ret
     exact ⟨by rw [hz.out]; rfl, (Below.refl _ _).alloc (Nat.le_refl _) _⟩
    by_cases q3 : (x.toNat : Int) < 97
    ·have hz := hide (name_first hx0.out (lowB_no (by omega)))
     go_wp2_with fail
     go_ret
     exact ⟨by rw [hz.out]; rfl, (Below.refl _ _).alloc (Nat.le_refl _) _⟩
    by_cases q5 : (x.toNat : Int) ≤ 122
    ·have hz := hide (all_take_more (p := nmB) hxH.out hE.out (nmB_yes (by omega)))
     have hl2 := hide (fun _ : 0 < k + 1 => (⟨x, hx0.out, lowB_yes ⟨by omega, by omega⟩⟩ : ∃ c, s.data.toList[0]? = some c ∧ lowB c = true))
     go_wp2_with fail
     go_roundw
     case rel => exact ⟨k + 1, rfl, by omega, hz.out, hl2.out⟩
     case measure => simp; omega
    ·have hz := hide (name_first hx0.out (lowB_no (by omega)))
     go_wp2_with fail
     go_ret
     exact ⟨by rw [hz.out]; rfl, (Below.refl _ _).alloc (Nat.le_refl _) _⟩
   ·have hkn : ((k : Int) == 0) = false := by simp; omega
    by_cases q1 : (x.toNat : Int) < 48
    ·have hz := hide (name_bad hxH.out (nmB_no (by omega) (by omega) (by omega)))
     have f95 : ((x.toNat : Int) != 95) = true := by simp; omega
     go_wp2_with fail
     go_ret
     exact ⟨by rw [hz.out]; rfl, (Below.refl _ _).alloc (Nat.le_refl _) _⟩
    by_cases q2 : (x.toNat : Int) ≤ 57
    ·have hz := hide (all_take_more (p := nmB) hxH.out hE.out (nmB_yes (by omega)))
     have hl2 := hide (fun _ : 0 < k + 1 => hF.out (by omega))
     go_wp2_with fail
     go_roundw
     case rel => exact ⟨k + 1, rfl, by omega, hz.out, hl2.out⟩
     case measure => simp; omega
    by_cases q3 : (x.toNat : Int) < 97
    ·by_cases q4 : (x.toNat : Int) = 95
     ·have hz := hide (all_take_more (p := nmB) hxH.out hE.out (nmB_yes (by omega)))
      have hl2 := hide (fun _ : 0 < k + 1 => hF.out (by omega))
      go_wp2_with fail
      go_roundw
      case rel => exact ⟨k + 1, rfl, by omega, hz.out, hl2.out⟩
      case measure => simp; omega
     ·have hz := hide (name_bad hxH.out (nmB_no (by omega) (by omega) (by omega)))
      have f95 : ((x.toNat : Int) != 95) = true := by simp; omega
      go_wp2_with fail
      go_ret
      exact ⟨by rw [hz.out]; rfl, (Below.refl _ _).alloc (Nat.le_refl _) _⟩
    by_cases q5 : (x.toNat : Int) ≤ 122
    ·have hz := hide (all_take_more (p := nmB) hxH.out hE.out (nmB_yes (by omega)))
     have hl2 := hide (fun _ : 0 < k + 1 => hF.out (by omega))
     go_wp2_with fail
     go_roundw
     case rel => exact ⟨k + 1, rfl, by omega, hz.out, hl2.out⟩
     case measure => simp; omega
    ·have hz := hide (name_bad hxH.out (nmB_no (by omega) (by omega) (by omega)))
     have f95 : ((x.toNat : Int) != 95) = true := by simp; omega
     go_wp2_with fail
     go_ret
     exact ⟨by rw [hz.out]; rfl, (Below.refl _ _).alloc (Nat.le_refl _) _⟩
  ·have hd := decode_high s k hlt (by rw [hx]; omega)
   have hle := decode_le s k
   have hnx : ∀ ty, (Instr.next (.pointer (some ⟨w.heap.size, 0, none⟩)) true ty).run Tryd.prog (w.iter s k) = _ := fun ty => run_next_any w s k ty hlt
   have hz := hide (name_bad hxH.out (nmB_no (by omega) (by omega) (by omega)))
   generalize Utf8.decode s k = rn at *
   obtain ⟨r, n⟩ := rn
   dsimp only at *
   have f95 : ((r : Int) != 95) = true := by simp; omega
   have g1 : ¬ (r : Int) ≤ 122 := by omega
   have g2 : ¬ (r : Int) ≤ 57 := by omega
   have g3 : ¬ (r : Int) < 48 := by omega
   cases hk0 : ((k : Int) == 0)
   all_goals
    go_wp2_with fail
    go_ret
    exact ⟨by rw [hz.out]; rfl, (Below.refl _ _).alloc (Nat.le_refl _) _⟩
end Go.Proofs.YtbjdgepfhhafjaaDoor
namespace Go.Proofs.YtbjdgepfhhafjaaDoor
open Go.RowKit
theorem value_any {w : World} {cs : List Value} {p : ProtD} {v : Int} (h : ProtIs w w.heap.size cs p) : Calls Tryd.prog 67 #[.agg cs.toArray, .int .i64 v] w (Ret fun r w' => r = .int .i64 (valE v p.values.length) ∧ Below w.heap.size w w') := by
 obtain ⟨A1, c1, A2, c2, A3, c3, A4, c4, A5, c5, A6, c6, A7, c7, rfl, -, -, h3, -, -, -, -⟩ := h
 have hn := h3.1
 obtain ⟨w1, hw1, hb1, hB1, hk1⟩ := box_blk w #[.string p.name, .int .i64 p.topo, .slice A1 p.states.length c1, .slice A2 p.messages.length c2, .slice A3 p.values.length c3, .int .i64 p.fault, .slice A4 p.res.length c4, .slice A5 p.initial.length c5, .slice A6 p.leader.length c6, .slice A7 p.rules.length c7] 27
 have hc1 := hB1.cell
 have hbH := hide hb1
 clear hb1 h3
 have key : ∀ b : Bool, b = !valB v p.values.length → whenE b 5 = valE v p.values.length := fun b hb => by rw [hb]; rfl
 by_cases q1 : v < -1
 ·have hb := hide (key true (by simp [valB]; omega))
  clear key
  go_enter Tryd.func67, Tryd.ntmps67
  go_wp2_with (go_at_call 25; refine (when_any _ _ _).mono ?_; rintro e w' ⟨rfl, rfl⟩; rw [hb.out])
  go_ret
  exact ⟨rfl, hbH.out⟩
 by_cases q2 : (p.values.length : Int) ≤ v
 ·have hb := hide (key true (by simp [valB]; omega))
  clear key
  go_enter Tryd.func67, Tryd.ntmps67
  go_wp2_with (go_at_call 25; refine (when_any _ _ _).mono ?_; rintro e w' ⟨rfl, rfl⟩; rw [hb.out])
  go_ret
  exact ⟨rfl, hbH.out⟩
 ·have hb := hide (key false (by simp [valB]; omega))
  clear key
  go_enter Tryd.func67, Tryd.ntmps67
  go_wp2_with (go_at_call 25; refine (when_any _ _ _).mono ?_; rintro e w' ⟨rfl, rfl⟩; rw [hb.out])
  go_ret
  exact ⟨rfl, hbH.out⟩
theorem responses_any {w : World} {B c : Nat} {A : Option Addr} {l : List Int} {n : Int} (h : Sl w B 1 encI A l) : Calls Tryd.prog 68 #[.slice A l.length c, .int .i64 n] w fun r w' => r = .returned (.int .i64 (respE n l)) ∧ w = w' := by
 have hH := hide h
 have hn := h.1
 clear h
 by_cases hln : (l.length : Int) = n
 case neg =>
  have hq : ((l.length : Int) != n) = true := by simp; exact hln
  have hz := hide (show respE n l = 1 by unfold respE; rw [if_pos hln])
  go_enter Tryd.func68, Tryd.ntmps68
  go_wp2_with fail
  go_ret
  exact ⟨by rw [hz.out]; rfl, rfl⟩
 have hq : ((l.length : Int) != n) = false := by simp; exact hln
 have hresp := hide (show respE n l = allE (fun x => whenE (!inE x n) 5) l by unfold respE; rw [if_neg (by omega)])
 have hlnH := hide hln
 clear hln
 go_enter Tryd.func68, Tryd.ntmps68
 go_wp2_with fail
 go_loopw [14] (fun ii wr => ∃ (k : Nat), ii = .int .i64 (k : Int) ∧ k ≤ l.length ∧ w = wr ∧ Hid (allE (fun x => whenE (!inE x n) 5) (l.take k) = 0)) (fun ii _ => l.length - (intOf ii).toNat)
 case atStart => exact ⟨0, rfl, Nat.zero_le _, (by first | rfl | trivial), rfl⟩
 case round =>
  obtain ⟨k, rfl, hk, rfl, hE⟩ := hrel
  by_cases hlt : k < l.length
  ·obtain ⟨b, off, e, hA, hbk, he, hc⟩ := hH.out.at hlt
   have d0 := hc 0 (by omega)
   simp only [Nat.add_zero, Nat.mul_one, encI] at d0
   have heH := hide he
   subst hA
   clear hc he
   cases hv : inE e n
   ·have hix := hide (show idxE e n = 5 by unfold idxE; rw [hv]; rfl)
    have hZ := hide (allE_stop (fun x => whenE (!inE x n) 5) heH.out hE.out (show whenE (!inE e n) 5 ≠ 0 by rw [hv]; decide))
    have hr := hide (show whenE (!inE e n) 5 = 5 by rw [hv]; rfl)
    go_wp2_with (go_at_call 44; refine (index_any _ _ _).mono ?_; rintro r w' ⟨rfl, rfl⟩; rw [hix.out])
    go_ret
    exact ⟨by rw [hresp.out, hZ.out, hr.out]; rfl, rfl⟩
   ·have hix := hide (show idxE e n = 0 by unfold idxE; rw [hv]; rfl)
    have hr := hide (show whenE (!inE e n) 5 = 0 by rw [hv]; rfl)
    go_wp2_with (go_at_call 44; refine (index_any _ _ _).mono ?_; rintro r w' ⟨rfl, rfl⟩; rw [hix.out])
    refine ⟨⟨k + 1, by go_num, by omega, (by first | rfl | trivial), ?_⟩, by simp [intOf]; omega⟩
    show _ = _
    rw [allE_take _ heH.out hE.out]
    exact hr.out
  ·have e : k = l.length := by omega
   have hE2 := hE.out
   rw [e, List.take_length] at hE2
   have hE3 := hide hE2
   clear hE2 e
   go_wp2_with fail
   go_ret
   exact ⟨by rw [hresp.out, hE3.out]; rfl, rfl⟩
end Go.Proofs.YtbjdgepfhhafjaaDoor
namespace Go.Proofs.YtbjdgepfhhafjaaDoor
open Go.RowKit
theorem errs_sl {w : World} {g : Nat} {t : TypeId} {l : List Int} (hb : Blk w g t (l.map (Value.int .i64)).toArray) (hn : l.length ≤ 9223372036854775807) : Sl w w.heap.size 1 encI (some ⟨g, 0, none⟩) l := by
 refine ⟨hn, fun _ => ⟨g, 0, rfl, hb.lt, fun k d hd j hj => ?_⟩⟩
 have hj0 : j = 0 := by omega
 subst hj0
 rw [hb.cell]
 simp [hd, encI]
theorem guardE_eq (m : Int) (g : Thr) : allE id [idxE g.msg m, whenE (!(decide (1 ≤ g.coef) && decide (g.coef ≤ 100))) 1, whenE (!linB g.bound) 4] = guardE m g := by
 simp [allE, orE_self0, guardE, idxE]
theorem guards_any {w : World} {cs : List Value} {p : ProtD} {A : Option Addr} {c : Nat} {l : List Thr} (h : ProtIs w w.heap.size cs p) (hl : Sl w w.heap.size 6 encThr A l) :
  Calls Tryd.prog 66 #[.agg cs.toArray, .slice A l.length c] w (Ret fun r w' => r = .int .i64 (guardsP p.messages.length l) ∧ Below w.heap.size w w') := by
 obtain ⟨A1, c1, A2, c2, A3, c3, A4, c4, A5, c5, A6, c6, A7, c7, rfl, -, h2, -, -, -, -, -⟩ := h
 have hn2 := h2.1
 have hnl := hl.1
 obtain ⟨w1, hw1, hb1, hB1, hk1⟩ := box_blk w #[.string p.name, .int .i64 p.topo, .slice A1 p.states.length c1, .slice A2 p.messages.length c2, .slice A3 p.values.length c3, .int .i64 p.fault, .slice A4 p.res.length c4, .slice A5 p.initial.length c5, .slice A6 p.leader.length c6, .slice A7 p.rules.length c7] 27
 have hs1 := hb1.size
 have hH := hide ((hl.below hb1).mono (B' := w1.heap.size) hs1)
 have hbH := hide hb1
 have hBH := hide hB1
 clear hb1 h2 hl hk1 hB1
 go_enter Tryd.func66, Tryd.ntmps66
 go_wp2_with fail
 go_loopw [10] (fun ii wr => ∃ (k : Nat), ii = .int .i64 (k : Int) ∧ k ≤ l.length ∧ Below w1.heap.size w1 wr ∧ Hid (allE (guardE p.messages.length) (l.take k) = 0)) (fun ii _ => l.length - (intOf ii).toNat)
 case atStart => exact ⟨0, rfl, Nat.zero_le _, Below.refl _ _, rfl⟩
 case round =>
  obtain ⟨k, rfl, hk, hB, hE⟩ := hrel
  by_cases hlt : k < l.length
  case neg =>
   have e : k = l.length := by omega
   have hE2 := hE.out
   rw [e, List.take_length] at hE2
   have hE3 := hide hE2
   have hBw := hide (hbH.out.trans (hB.mono hs1))
   have hm := hide (show whenE (decide (2 < l.length)) 4 = guardsP p.messages.length l by unfold guardsP; rw [hE2, orE_zero])
   clear hE2 e hB
   by_cases q : 2 < (l.length : Int)
   ·have hw2 := hide (show whenE true 4 = guardsP p.messages.length l by rw [← hm.out, decide_eq_true (by omega)])
    go_wp2_with (go_at_call 25; refine (when_any _ _ _).mono ?_; rintro r w' ⟨rfl, rfl⟩; rw [hw2.out])
    go_ret
    exact ⟨rfl, hBw.out⟩
   ·have hw2 := hide (show whenE false 4 = guardsP p.messages.length l by rw [← hm.out, decide_eq_false (by omega)])
    go_wp2_with (go_at_call 25; refine (when_any _ _ _).mono ?_; rintro r w' ⟨rfl, rfl⟩; rw [hw2.out])
    go_ret
    exact ⟨rfl, hBw.out⟩
  obtain ⟨b, off, g, hA, hbk, he, hc⟩ := (hH.out.below hB).at hlt
  have d0 := hc 0 (by omega)
  have d1 := hc 1 (by omega)
  have d2 := hc 2 (by omega)
  have d3 := hc 3 (by omega)
  have d4 := hc 4 (by omega)
  have d5 := hc 5 (by omega)
  simp only [Nat.add_zero, encThr] at d0 d1 d2 d3 d4 d5
  have heH := hide he
  subst hA
  clear hc he
  obtain ⟨w2, hw2, hb2, hB2, hk2⟩ := box_blk wr #[.int .i64 g.msg, .int .i64 g.coef, .int .i64 g.bound.c, .int .i64 g.bound.n, .int .i64 g.bound.t, .int .i64 g.bound.f] 113
  have hW2 := hide hw2
  have hc2 := hB2.cell
  have hB12 := (hBH.out.below hB).below hb2
  have hc1 := hB12.cell
  have hb12 := hide (hB.trans (hb2.mono hB.size))
  clear hw2 hk2
  go_wp2_with fail
  rw [hW2.out]
  obtain ⟨e, hze⟩ : ∃ e, guardE p.messages.length g = e := ⟨_, rfl⟩
  by_cases h0 : e = 0
  ·have hz := hide (show guardE p.messages.length g = 0 by rw [hze, h0])
   clear hze h0
   by_cases q1 : g.coef < 1
   ·have hge := hide (show allE id [idxE g.msg p.messages.length, whenE true 1, whenE (!linB g.bound) 4] = 0 from by
     rw [show true = (!(decide (1 ≤ g.coef) && decide (g.coef ≤ 100))) from by simp; omega, guardE_eq]
     exact hz.out)
    refine Reg.cI [0, 1, 0, 4, 12, 31, 0, 64, 192, 511, 1023, 2047, 4095, 8191, 16383, 0, 32768, 131071, 262143, 524287, 1048575, 2097151, 4194303] [0, 1, 2, 3, 4, 6, 7, 8, 15, 16, 5, 9, 10, 11, 12, 13, 14, 17, 18, 19, 20, 21, 22] ?_
    refine Reg.wI [0, 1, 2, 3, 4, 6, 7, 8, 15, 16] [5, 9, 10, 11, 12, 13, 14, 17, 18, 19, 20, 21, 22] rfl fun Qf hQf => ?_
    go_wp2_with fail
    first | refine hQf _ _ ⟨rfl, ?_⟩ | refine ⟨rfl, ?_⟩
    try clear hQf
    refine Reg.aI 5 [9, 10, 11, 12, 13, 14, 17, 18, 19, 20, 21, 22] [7, 16] rfl fun Qf hQf => ?_
    simp only [gT, gS, gZ]
    go_wp2_with (go_at_call 44; refine (index_any _ _ _).mono ?_; rintro r w' ⟨rfl, rfl⟩)
    first | refine hQf _ _ ⟨Reg.same_below (Below.refl _ _) [7, 16] rfl, ?_⟩ | refine ⟨Reg.same_below (Below.refl _ _) [7, 16] rfl, ?_⟩
    try clear hQf
    refine Reg.wI [9, 10, 11, 12, 13] [14, 17, 18, 19, 20, 21, 22] rfl fun Qf hQf => ?_
    go_wp2_with fail
    first | refine hQf _ _ ⟨rfl, ?_⟩ | refine ⟨rfl, ?_⟩
    try clear hQf
    refine Reg.aI 14 [17, 18, 19, 20, 21, 22] [16] rfl fun Qf hQf => ?_
    simp only [gT, gS, gZ]
    go_wp2_with (go_at_call 25; refine (when_any _ _ _).mono ?_; rintro r w' ⟨rfl, rfl⟩)
    first | refine hQf _ _ ⟨Reg.same_below (Below.refl _ _) [16] rfl, ?_⟩ | refine ⟨Reg.same_below (Below.refl _ _) [16] rfl, ?_⟩
    try clear hQf
    refine Reg.aI 17 [18, 19, 20, 21, 22] [] rfl fun Qf hQf => ?_
    simp only [gT, gS, gZ]
    go_wp2_with (go_at_call 39; refine Calls.ret (bounded_any g.bound _) ?_; rintro r w3 ⟨rfl, hb3⟩)
    first | refine hQf _ _ ⟨Reg.nm, ?_⟩ | refine ⟨Reg.nm, ?_⟩
    try clear hQf
    obtain ⟨w4, hw4, hb4, hB4, hk4⟩ := box_blk w3 #[.int .i64 (idxE g.msg p.messages.length), .int .i64 (whenE true 1), .int .i64 (whenE (!linB g.bound) 4)] 33
    have hS4 := hide (errs_sl (l := [idxE g.msg p.messages.length, whenE true 1, whenE (!linB g.bound) 4]) hB4 (by simp))
    have hb14 := hide (hb12.out.trans (((drewB w2).trans (hb3.trans (hb4.mono hb3.size))).mono hb12.out.size))
    clear hB4 hk4 hb4 hb3
    refine Reg.wI [18] [19, 20, 21, 22] rfl fun Qf hQf => ?_
    go_wp2_with fail
    first | refine hQf _ _ ⟨rfl, ?_⟩ | refine ⟨rfl, ?_⟩
    try clear hQf
    refine Reg.aI 19 [20, 21, 22] [] rfl fun Qf hQf => ?_
    simp only [gT, gS, gZ]
    go_wp2_with (go_at_call 25; refine (when_any _ _ _).mono ?_; rintro r w' ⟨rfl, rfl⟩)
    first | refine hQf _ _ ⟨Reg.nm, ?_⟩ | refine ⟨Reg.nm, ?_⟩
    try clear hQf
    refine Reg.wI [20] [21, 22] rfl fun Qf hQf => ?_
    go_wp2_with fail
    first | refine hQf _ _ ⟨rfl, ?_⟩ | refine ⟨rfl, ?_⟩
    try clear hQf
    refine Reg.aI 21 [22] [] rfl fun Qf hQf => ?_
    simp only [gT, gS, gZ]
    go_wp2_with (go_at_call 24; refine (first_any (l := [idxE g.msg p.messages.length, whenE true 1, whenE (!linB g.bound) 4]) hS4.out).mono ?_; rintro r w' ⟨rfl, rfl⟩; rw [hge.out])
    first | refine hQf _ _ ⟨Reg.nm, ?_⟩ | refine ⟨Reg.nm, ?_⟩
    try clear hQf
    refine Reg.wI [22] [] rfl fun Qf hQf => ?_
    go_wp2_with fail
    first | refine hQf _ _ ⟨rfl, ?_⟩ | refine ⟨rfl, ?_⟩
    try clear hQf
    first | refine Reg.restI_end ?_ | skip
    go_wp2_with fail
    refine ⟨⟨k + 1, by go_num, by omega, hb14.out, ?_⟩, by simp [intOf]; omega⟩
    show _ = _
    rw [allE_take _ heH.out hE.out]
    exact hz.out
   ·have hge := hide (show allE id [idxE g.msg p.messages.length, whenE (decide (100 < g.coef)) 1, whenE (!linB g.bound) 4] = 0 from by
     rw [show (decide (100 < g.coef)) = (!(decide (1 ≤ g.coef) && decide (g.coef ≤ 100))) from by rw [Bool.eq_iff_iff]; simp; omega, guardE_eq]
     exact hz.out)
    refine Reg.cI [0, 1, 0, 4, 12, 31, 0, 64, 192, 511, 1023, 2047, 4095, 8191, 16383, 0, 32768, 131071, 262143, 524287, 1048575, 2097151, 4194303] [0, 1, 2, 3, 4, 6, 7, 8, 15, 16, 5, 9, 10, 11, 12, 13, 14, 17, 18, 19, 20, 21, 22] ?_
    refine Reg.wI [0, 1, 2, 3, 4, 6, 7, 8, 15, 16] [5, 9, 10, 11, 12, 13, 14, 17, 18, 19, 20, 21, 22] rfl fun Qf hQf => ?_
    go_wp2_with fail
    first | refine hQf _ _ ⟨rfl, ?_⟩ | refine ⟨rfl, ?_⟩
    try clear hQf
    refine Reg.aI 5 [9, 10, 11, 12, 13, 14, 17, 18, 19, 20, 21, 22] [7, 16] rfl fun Qf hQf => ?_
    simp only [gT, gS, gZ]
    go_wp2_with (go_at_call 44; refine (index_any _ _ _).mono ?_; rintro r w' ⟨rfl, rfl⟩)
    first | refine hQf _ _ ⟨Reg.same_below (Below.refl _ _) [7, 16] rfl, ?_⟩ | refine ⟨Reg.same_below (Below.refl _ _) [7, 16] rfl, ?_⟩
    try clear hQf
    refine Reg.wI [9, 10, 11, 12, 13] [14, 17, 18, 19, 20, 21, 22] rfl fun Qf hQf => ?_
    go_wp2_with fail
    first | refine hQf _ _ ⟨rfl, ?_⟩ | refine ⟨rfl, ?_⟩
    try clear hQf
    refine Reg.aI 14 [17, 18, 19, 20, 21, 22] [16] rfl fun Qf hQf => ?_
    simp only [gT, gS, gZ]
    go_wp2_with (go_at_call 25; refine (when_any _ _ _).mono ?_; rintro r w' ⟨rfl, rfl⟩)
    first | refine hQf _ _ ⟨Reg.same_below (Below.refl _ _) [16] rfl, ?_⟩ | refine ⟨Reg.same_below (Below.refl _ _) [16] rfl, ?_⟩
    try clear hQf
    refine Reg.aI 17 [18, 19, 20, 21, 22] [] rfl fun Qf hQf => ?_
    simp only [gT, gS, gZ]
    go_wp2_with (go_at_call 39; refine Calls.ret (bounded_any g.bound _) ?_; rintro r w3 ⟨rfl, hb3⟩)
    first | refine hQf _ _ ⟨Reg.nm, ?_⟩ | refine ⟨Reg.nm, ?_⟩
    try clear hQf
    obtain ⟨w4, hw4, hb4, hB4, hk4⟩ := box_blk w3 #[.int .i64 (idxE g.msg p.messages.length), .int .i64 (whenE (decide (100 < g.coef)) 1), .int .i64 (whenE (!linB g.bound) 4)] 33
    have hS4 := hide (errs_sl (l := [idxE g.msg p.messages.length, whenE (decide (100 < g.coef)) 1, whenE (!linB g.bound) 4]) hB4 (by simp))
    have hb14 := hide (hb12.out.trans (((drewB w2).trans (hb3.trans (hb4.mono hb3.size))).mono hb12.out.size))
    clear hB4 hk4 hb4 hb3
    refine Reg.wI [18] [19, 20, 21, 22] rfl fun Qf hQf => ?_
    go_wp2_with fail
    first | refine hQf _ _ ⟨rfl, ?_⟩ | refine ⟨rfl, ?_⟩
    try clear hQf
    refine Reg.aI 19 [20, 21, 22] [] rfl fun Qf hQf => ?_
    simp only [gT, gS, gZ]
    go_wp2_with (go_at_call 25; refine (when_any _ _ _).mono ?_; rintro r w' ⟨rfl, rfl⟩)
    first | refine hQf _ _ ⟨Reg.nm, ?_⟩ | refine ⟨Reg.nm, ?_⟩
    try clear hQf
    refine Reg.wI [20] [21, 22] rfl fun Qf hQf => ?_
    go_wp2_with fail
    first | refine hQf _ _ ⟨rfl, ?_⟩ | refine ⟨rfl, ?_⟩
    try clear hQf
    refine Reg.aI 21 [22] [] rfl fun Qf hQf => ?_
    simp only [gT, gS, gZ]
    go_wp2_with (go_at_call 24; refine (first_any (l := [idxE g.msg p.messages.length, whenE (decide (100 < g.coef)) 1, whenE (!linB g.bound) 4]) hS4.out).mono ?_; rintro r w' ⟨rfl, rfl⟩; rw [hge.out])
    first | refine hQf _ _ ⟨Reg.nm, ?_⟩ | refine ⟨Reg.nm, ?_⟩
    try clear hQf
    refine Reg.wI [22] [] rfl fun Qf hQf => ?_
    go_wp2_with fail
    first | refine hQf _ _ ⟨rfl, ?_⟩ | refine ⟨rfl, ?_⟩
    try clear hQf
    first | refine Reg.restI_end ?_ | skip
    go_wp2_with fail
    refine ⟨⟨k + 1, by go_num, by omega, hb14.out, ?_⟩, by simp [intOf]; omega⟩
    show _ = _
    rw [allE_take _ heH.out hE.out]
    exact hz.out
  ·have hz := hide hze
   have hst := hide (show guardsP p.messages.length l = e by
    unfold guardsP
    rw [allE_stop _ heH.out hE.out (by rw [hze]; exact h0), hze, orE_ne h0])
   have hq : (e != 0) = true := by simp [h0]
   clear hze h0
   by_cases q1 : g.coef < 1
   ·have hge := hide (show allE id [idxE g.msg p.messages.length, whenE true 1, whenE (!linB g.bound) 4] = e from by
     rw [show true = (!(decide (1 ≤ g.coef) && decide (g.coef ≤ 100))) from by simp; omega, guardE_eq]
     exact hz.out)
    refine Reg.cI [0, 1, 0, 4, 12, 31, 0, 64, 192, 511, 1023, 2047, 4095, 8191, 16383, 0, 32768, 131071, 262143, 524287, 1048575, 2097151, 4194303] [0, 1, 2, 3, 4, 6, 7, 8, 15, 16, 5, 9, 10, 11, 12, 13, 14, 17, 18, 19, 20, 21, 22] ?_
    refine Reg.wI [0, 1, 2, 3, 4, 6, 7, 8, 15, 16] [5, 9, 10, 11, 12, 13, 14, 17, 18, 19, 20, 21, 22] rfl fun Qf hQf => ?_
    go_wp2_with fail
    first | refine hQf _ _ ⟨rfl, ?_⟩ | refine ⟨rfl, ?_⟩
    try clear hQf
    refine Reg.aI 5 [9, 10, 11, 12, 13, 14, 17, 18, 19, 20, 21, 22] [7, 16] rfl fun Qf hQf => ?_
    simp only [gT, gS, gZ]
    go_wp2_with (go_at_call 44; refine (index_any _ _ _).mono ?_; rintro r w' ⟨rfl, rfl⟩)
    first | refine hQf _ _ ⟨Reg.same_below (Below.refl _ _) [7, 16] rfl, ?_⟩ | refine ⟨Reg.same_below (Below.refl _ _) [7, 16] rfl, ?_⟩
    try clear hQf
    refine Reg.wI [9, 10, 11, 12, 13] [14, 17, 18, 19, 20, 21, 22] rfl fun Qf hQf => ?_
    go_wp2_with fail
    first | refine hQf _ _ ⟨rfl, ?_⟩ | refine ⟨rfl, ?_⟩
    try clear hQf
    refine Reg.aI 14 [17, 18, 19, 20, 21, 22] [16] rfl fun Qf hQf => ?_
    simp only [gT, gS, gZ]
    go_wp2_with (go_at_call 25; refine (when_any _ _ _).mono ?_; rintro r w' ⟨rfl, rfl⟩)
    first | refine hQf _ _ ⟨Reg.same_below (Below.refl _ _) [16] rfl, ?_⟩ | refine ⟨Reg.same_below (Below.refl _ _) [16] rfl, ?_⟩
    try clear hQf
    refine Reg.aI 17 [18, 19, 20, 21, 22] [] rfl fun Qf hQf => ?_
    simp only [gT, gS, gZ]
    go_wp2_with (go_at_call 39; refine Calls.ret (bounded_any g.bound _) ?_; rintro r w3 ⟨rfl, hb3⟩)
    first | refine hQf _ _ ⟨Reg.nm, ?_⟩ | refine ⟨Reg.nm, ?_⟩
    try clear hQf
    obtain ⟨w4, hw4, hb4, hB4, hk4⟩ := box_blk w3 #[.int .i64 (idxE g.msg p.messages.length), .int .i64 (whenE true 1), .int .i64 (whenE (!linB g.bound) 4)] 33
    have hS4 := hide (errs_sl (l := [idxE g.msg p.messages.length, whenE true 1, whenE (!linB g.bound) 4]) hB4 (by simp))
    have hb14 := hide (hb12.out.trans (((drewB w2).trans (hb3.trans (hb4.mono hb3.size))).mono hb12.out.size))
    clear hB4 hk4 hb4 hb3
    refine Reg.wI [18] [19, 20, 21, 22] rfl fun Qf hQf => ?_
    go_wp2_with fail
    first | refine hQf _ _ ⟨rfl, ?_⟩ | refine ⟨rfl, ?_⟩
    try clear hQf
    refine Reg.aI 19 [20, 21, 22] [] rfl fun Qf hQf => ?_
    simp only [gT, gS, gZ]
    go_wp2_with (go_at_call 25; refine (when_any _ _ _).mono ?_; rintro r w' ⟨rfl, rfl⟩)
    first | refine hQf _ _ ⟨Reg.nm, ?_⟩ | refine ⟨Reg.nm, ?_⟩
    try clear hQf
    refine Reg.wI [20] [21, 22] rfl fun Qf hQf => ?_
    go_wp2_with fail
    first | refine hQf _ _ ⟨rfl, ?_⟩ | refine ⟨rfl, ?_⟩
    try clear hQf
    refine Reg.aI 21 [22] [] rfl fun Qf hQf => ?_
    simp only [gT, gS, gZ]
    go_wp2_with (go_at_call 24; refine (first_any (l := [idxE g.msg p.messages.length, whenE true 1, whenE (!linB g.bound) 4]) hS4.out).mono ?_; rintro r w' ⟨rfl, rfl⟩; rw [hge.out])
    first | refine hQf _ _ ⟨Reg.nm, ?_⟩ | refine ⟨Reg.nm, ?_⟩
    try clear hQf
    refine Reg.wI [22] [] rfl fun Qf hQf => ?_
    go_wp2_with fail
    first | refine hQf _ _ ⟨rfl, ?_⟩ | refine ⟨rfl, ?_⟩
    try clear hQf
    first | refine Reg.restI_end ?_ | skip
    go_wp2_with fail
    go_ret
    exact ⟨by rw [hst.out]; rfl, hbH.out.trans (hb14.out.mono hs1)⟩
   ·have hge := hide (show allE id [idxE g.msg p.messages.length, whenE (decide (100 < g.coef)) 1, whenE (!linB g.bound) 4] = e from by
     rw [show (decide (100 < g.coef)) = (!(decide (1 ≤ g.coef) && decide (g.coef ≤ 100))) from by rw [Bool.eq_iff_iff]; simp; omega, guardE_eq]
     exact hz.out)
    refine Reg.cI [0, 1, 0, 4, 12, 31, 0, 64, 192, 511, 1023, 2047, 4095, 8191, 16383, 0, 32768, 131071, 262143, 524287, 1048575, 2097151, 4194303] [0, 1, 2, 3, 4, 6, 7, 8, 15, 16, 5, 9, 10, 11, 12, 13, 14, 17, 18, 19, 20, 21, 22] ?_
    refine Reg.wI [0, 1, 2, 3, 4, 6, 7, 8, 15, 16] [5, 9, 10, 11, 12, 13, 14, 17, 18, 19, 20, 21, 22] rfl fun Qf hQf => ?_
    go_wp2_with fail
    first | refine hQf _ _ ⟨rfl, ?_⟩ | refine ⟨rfl, ?_⟩
    try clear hQf
    refine Reg.aI 5 [9, 10, 11, 12, 13, 14, 17, 18, 19, 20, 21, 22] [7, 16] rfl fun Qf hQf => ?_
    simp only [gT, gS, gZ]
    go_wp2_with (go_at_call 44; refine (index_any _ _ _).mono ?_; rintro r w' ⟨rfl, rfl⟩)
    first | refine hQf _ _ ⟨Reg.same_below (Below.refl _ _) [7, 16] rfl, ?_⟩ | refine ⟨Reg.same_below (Below.refl _ _) [7, 16] rfl, ?_⟩
    try clear hQf
    refine Reg.wI [9, 10, 11, 12, 13] [14, 17, 18, 19, 20, 21, 22] rfl fun Qf hQf => ?_
    go_wp2_with fail
    first | refine hQf _ _ ⟨rfl, ?_⟩ | refine ⟨rfl, ?_⟩
    try clear hQf
    refine Reg.aI 14 [17, 18, 19, 20, 21, 22] [16] rfl fun Qf hQf => ?_
    simp only [gT, gS, gZ]
    go_wp2_with (go_at_call 25; refine (when_any _ _ _).mono ?_; rintro r w' ⟨rfl, rfl⟩)
    first | refine hQf _ _ ⟨Reg.same_below (Below.refl _ _) [16] rfl, ?_⟩ | refine ⟨Reg.same_below (Below.refl _ _) [16] rfl, ?_⟩
    try clear hQf
    refine Reg.aI 17 [18, 19, 20, 21, 22] [] rfl fun Qf hQf => ?_
    simp only [gT, gS, gZ]
    go_wp2_with (go_at_call 39; refine Calls.ret (bounded_any g.bound _) ?_; rintro r w3 ⟨rfl, hb3⟩)
    first | refine hQf _ _ ⟨Reg.nm, ?_⟩ | refine ⟨Reg.nm, ?_⟩
    try clear hQf
    obtain ⟨w4, hw4, hb4, hB4, hk4⟩ := box_blk w3 #[.int .i64 (idxE g.msg p.messages.length), .int .i64 (whenE (decide (100 < g.coef)) 1), .int .i64 (whenE (!linB g.bound) 4)] 33
    have hS4 := hide (errs_sl (l := [idxE g.msg p.messages.length, whenE (decide (100 < g.coef)) 1, whenE (!linB g.bound) 4]) hB4 (by simp))
    have hb14 := hide (hb12.out.trans (((drewB w2).trans (hb3.trans (hb4.mono hb3.size))).mono hb12.out.size))
    clear hB4 hk4 hb4 hb3
    refine Reg.wI [18] [19, 20, 21, 22] rfl fun Qf hQf => ?_
    go_wp2_with fail
    first | refine hQf _ _ ⟨rfl, ?_⟩ | refine ⟨rfl, ?_⟩
    try clear hQf
    refine Reg.aI 19 [20, 21, 22] [] rfl fun Qf hQf => ?_
    simp only [gT, gS, gZ]
    go_wp2_with (go_at_call 25; refine (when_any _ _ _).mono ?_; rintro r w' ⟨rfl, rfl⟩)
    first | refine hQf _ _ ⟨Reg.nm, ?_⟩ | refine ⟨Reg.nm, ?_⟩
    try clear hQf
    refine Reg.wI [20] [21, 22] rfl fun Qf hQf => ?_
    go_wp2_with fail
    first | refine hQf _ _ ⟨rfl, ?_⟩ | refine ⟨rfl, ?_⟩
    try clear hQf
    refine Reg.aI 21 [22] [] rfl fun Qf hQf => ?_
    simp only [gT, gS, gZ]
    go_wp2_with (go_at_call 24; refine (first_any (l := [idxE g.msg p.messages.length, whenE (decide (100 < g.coef)) 1, whenE (!linB g.bound) 4]) hS4.out).mono ?_; rintro r w' ⟨rfl, rfl⟩; rw [hge.out])
    first | refine hQf _ _ ⟨Reg.nm, ?_⟩ | refine ⟨Reg.nm, ?_⟩
    try clear hQf
    refine Reg.wI [22] [] rfl fun Qf hQf => ?_
    go_wp2_with fail
    first | refine hQf _ _ ⟨rfl, ?_⟩ | refine ⟨rfl, ?_⟩
    try clear hQf
    first | refine Reg.restI_end ?_ | skip
    go_wp2_with fail
    go_ret
    exact ⟨by rw [hst.out]; rfl, hbH.out.trans (hb14.out.mono hs1)⟩
end Go.Proofs.YtbjdgepfhhafjaaDoor
namespace Go.Proofs.YtbjdgepfhhafjaaDoor
open Go.RowKit
theorem sameName_any {w : World} {B g5 : Nat} {cs : List Value} {r : RuleD} {nm : ByteArray} (h : RuleIs w B cs r) (hc : w.cell? ⟨g5, 0, none⟩ = some (.string nm)) (hg : g5 < w.heap.size) :
  Calls Tryd.prog 63 #[.agg cs.toArray, .pointer (some ⟨g5, 0, none⟩)] w (Ret fun v w' => v = .bool (decide (r.name = nm)) ∧ Below w.heap.size w w') := by
 obtain ⟨A1, c1, A2, c2, A3, c3, A4, c4, A5, c5, A6, c6, A7, c7, A8, c8, rfl, -⟩ := h
 obtain ⟨w1, hw1, hb1, hB1, hk1⟩ := box_blk w #[.string r.name, .int .i64 r.kind, .int .i64 r.fr, .int .i64 r.to, .int .i64 r.pf, .int .i64 r.pt, .slice A1 r.resp.length c1, .slice A2 r.guards.length c2, .slice A3 r.ex.length c3, .slice A4 r.fa.length c4, .int .i64 r.rd, .int .i64 r.wr, .slice A5 r.send.length c5, .int .i64 r.at_, .slice A6 r.left.length c6, .slice A7 r.right.length c7, .slice A8 r.parent.length c8, .int .i64 r.dir] 51
 have hc1 := hB1.cell 0
 have hc5 : w1.cell? ⟨g5, 0, none⟩ = some (.string nm) := (hb1.cell hg).trans hc
 have hbH := hide hb1
 have hq := hide (bytes_eq r.name nm)
 clear hb1 hk1 hB1 hc
 go_enter Tryd.func63, Tryd.ntmps63
 go_wp2_with fail
 go_ret
 exact ⟨by rw [← hq.out]; rfl, hbH.out⟩
theorem indexFunc_any {w : World} {g5 c : Nat} {A : Option Addr} {l : List RuleD} {nm : ByteArray} (h : RowsOf w w.heap.size 18 (RuleIs w w.heap.size) A l) (hc : w.cell? ⟨g5, 0, none⟩ = some (.string nm)) (hg : g5 < w.heap.size) :
  Calls Tryd.prog 78 #[.slice A l.length c, .func (.func 63) #[] #[.pointer (some ⟨g5, 0, none⟩)]] w (Ret fun v w' => (∃ z : Int, v = .int .i64 z ∧ (0 ≤ z ↔ (l.any fun x => decide (x.name = nm)) = true)) ∧ Below w.heap.size w w') := by
 have hH := hide h
 have hn := h.1
 have hC := hide hc
 clear h hc
 go_enter Tryd.func78, Tryd.ntmps78
 go_wp2_with fail
 go_loopw [8] (fun ii wr => ∃ (k : Nat), ii = .int .i64 (k : Int) ∧ k ≤ l.length ∧ Below w.heap.size w wr ∧ Hid ((l.take k).all (fun x => !decide (x.name = nm)) = true)) (fun ii _ => l.length - (intOf ii).toNat)
 case atStart => exact ⟨0, rfl, Nat.zero_le _, Below.refl _ _, by show _ = _; simp⟩
 case round =>
  obtain ⟨k, rfl, hk, hB, hE⟩ := hrel
  have hBH := hide hB
  by_cases hlt : k < l.length
  ·have hr := hH.out.keep (R' := RuleIs wr w.heap.size) (fun _ hp => hB.cell hp) (fun _ _ h => h.keep (fun _ hp => hB.cell hp) (Nat.le_refl _)) (Nat.le_refl _)
   obtain ⟨b, off, r, cs, hA, hbk, he, -, hcs, hR⟩ := hr.at hlt
   have hRH := hide hR
   obtain ⟨A1, c1, A2, c2, A3, c3, A4, c4, A5, c5, A6, c6, A7, c7, A8, c8, rfl, -⟩ := hR
   have hRH2 : Hid (RuleIs wr w.heap.size [.string r.name, .int .i64 r.kind, .int .i64 r.fr, .int .i64 r.to, .int .i64 r.pf, .int .i64 r.pt, .slice A1 r.resp.length c1, .slice A2 r.guards.length c2, .slice A3 r.ex.length c3, .slice A4 r.fa.length c4, .int .i64 r.rd, .int .i64 r.wr, .slice A5 r.send.length c5, .int .i64 r.at_, .slice A6 r.left.length c6, .slice A7 r.right.length c7, .slice A8 r.parent.length c8, .int .i64 r.dir] r) := hRH.out
   have d0 := hcs 0 _ rfl
   have d1 := hcs 1 _ rfl
   have d2 := hcs 2 _ rfl
   have d3 := hcs 3 _ rfl
   have d4 := hcs 4 _ rfl
   have d5 := hcs 5 _ rfl
   have d6 := hcs 6 _ rfl
   have d7 := hcs 7 _ rfl
   have d8 := hcs 8 _ rfl
   have d9 := hcs 9 _ rfl
   have d10 := hcs 10 _ rfl
   have d11 := hcs 11 _ rfl
   have d12 := hcs 12 _ rfl
   have d13 := hcs 13 _ rfl
   have d14 := hcs 14 _ rfl
   have d15 := hcs 15 _ rfl
   have d16 := hcs 16 _ rfl
   have d17 := hcs 17 _ rfl
   simp only [Nat.add_zero] at d0
   have heH := hide he
   have hC2 : wr.cell? ⟨g5, 0, none⟩ = some (.string nm) := (hB.cell hg).trans hC.out
   have hC2H := hide hC2
   have hg2 : g5 < wr.heap.size := Nat.lt_of_lt_of_le hg hB.size
   subst hA
   clear hcs he hr hB hRH hC2
   cases hv : decide (r.name = nm)
   ·have hz := hide (all_take_more (p := fun x : RuleD => !decide (x.name = nm)) heH.out hE.out (by rw [hv]; rfl))
    go_wp2_with (go_at_call 63; refine Calls.ret (sameName_any hRH2.out hC2H.out hg2) ?_; rintro v w2 ⟨rfl, hb2⟩; rw [hv]; have hb2H := hide (hBH.out.trans (hb2.mono hBH.out.size)); clear hb2)
    exact ⟨⟨k + 1, by go_num, by omega, hb2H.out, hz.out⟩, by simp [intOf]; omega⟩
   ·have hz := hide (show (l.any fun x => decide (x.name = nm)) = true from List.any_eq_true.2 ⟨r, List.mem_of_getElem? heH.out, hv⟩)
    go_wp2_with (go_at_call 63; refine Calls.ret (sameName_any hRH2.out hC2H.out hg2) ?_; rintro v w2 ⟨rfl, hb2⟩; rw [hv]; have hb2H := hide (hBH.out.trans (hb2.mono hBH.out.size)); clear hb2)
    go_ret
    exact ⟨⟨(k : Int), rfl, fun _ => hz.out, fun _ => by omega⟩, hb2H.out⟩
  ·have e : k = l.length := by omega
   have hE2 := hE.out
   rw [e, List.take_length] at hE2
   have hE3 := hide hE2
   clear hE2 e hB
   go_wp2_with fail
   go_ret
   refine ⟨⟨-1, rfl, fun h => by omega, fun h => ?_⟩, hBH.out⟩
   obtain ⟨x, hx, hv⟩ := List.any_eq_true.1 h
   have := List.all_eq_true.1 hE3.out x hx
   rw [hv] at this
   cases this
theorem containsFunc_any {w : World} {g5 c : Nat} {A : Option Addr} {l : List RuleD} {nm : ByteArray} (h : RowsOf w w.heap.size 18 (RuleIs w w.heap.size) A l) (hc : w.cell? ⟨g5, 0, none⟩ = some (.string nm)) (hg : g5 < w.heap.size) :
  Calls Tryd.prog 62 #[.slice A l.length c, .func (.func 63) #[] #[.pointer (some ⟨g5, 0, none⟩)]] w (Ret fun v w' => v = .bool (l.any fun x => decide (x.name = nm)) ∧ Below w.heap.size w w') := by
 have hH := hide h
 have hC := hide hc
 clear h hc
 go_enter Tryd.func62, Tryd.ntmps62
 go_wp2_with fail
 refine Calls.ret (indexFunc_any hH.out hC.out hg) ?_
 rintro v w2 ⟨⟨z, rfl, hz⟩, hb2⟩
 have hb2H := hide hb2
 have hzH := hide hz
 clear hb2 hz
 go_wp2_with fail
 go_ret
 refine ⟨?_, hb2H.out⟩
 have : (l.any fun x => decide (x.name = nm)) = decide (0 ≤ z) := by rw [Bool.eq_iff_iff, ← hzH.out, decide_eq_true_eq]
 rw [this]
 rfl
end Go.Proofs.YtbjdgepfhhafjaaDoor
namespace Go.Proofs.YtbjdgepfhhafjaaDoor
open Go.RowKit
theorem info9 : (Tryd.prog.info? 9).map (fun i => (i.zero, i.size, i.bytes)) = some (some (.string ByteArray.empty), 1, 16) := by kernel_rfl
theorem rowS : RowTy Tryd.prog 22 9 1 := rowTy_of Tryd.underlying22 info9 rfl (by omega) (by omega)
section
variable {P : Program} {w : World}
theorem run_append_zero {t e size : Nat} (R : RowTy P t e size) (ty : TypeId) {base : Nat} {v : Value} {n : Nat} {xs : List Value} (hown : w.ownsRow base e size v n xs) (A : Option Addr) (c : Nat) :
  (Builtin.append_ #[t, t] ty #[v, .slice A 0 c]).run P w = .ok v w := by
 have ht := R.ht
 obtain ⟨i, z, bytes, hi, hz, hsize, hby, hzs, hb⟩ := R.info
 have e1 : ∀ (a : Addr), Sem.run P (loadCells a 0) w = .ok #[] w := fun _ => rfl
 rcases hown.2 with ⟨rfl, rfl⟩ | ⟨g, cap, cur, rfl, _, _, hnc, _⟩
 ·cases A <;> simp [Builtin.append_, run_underlying ht, sizeOf, typeInfo, hi, Builtin.lenOf, Builtin.firstCells, e1]
 ·cases A <;> simp [Builtin.append_, run_underlying ht, sizeOf, typeInfo, hi, Builtin.lenOf, Builtin.firstCells, hnc, storeCells, e1]
theorem size_zeroCells' (z : Array Value) (n : Nat) : (Builtin.zeroCells z n).size = n * z.size := by simp [Builtin.zeroCells]
theorem run_append_zeros (t u ty e : TypeId) (i : TypeInfo) (z : Value) (ht : P.underlying t = some (.slice e)) (hu : P.underlying u = some (.int .i64)) (hi : P.info? e = some i) (hz : i.zero = some z)
  (n : Nat) (h0 : 0 < n) (hn : n ≤ 1000000) (hs : 0 < i.size) (hb : i.bytes ≤ 200) :
  (Builtin.append_ #[t, u] ty #[.slice none 0 0, .int .i64 n]).run P w =
   .ok (.slice (some ⟨w.heap.size, 0, none⟩) n (grownCap w n 0 e)) (w.drew.alloc (.cells (Builtin.zeroCells z.cells n ++ Builtin.zeroCells z.cells (grownCap w n 0 e - n)) e)) := by
 have hbytes : n * i.bytes ≤ 1000000 * 200 := Nat.mul_le_mul hn hb
 have h48 : n * i.bytes ≤ 281474976710656 := by omega
 have h48i : ¬ ((281474976710656 : Int) < (n : Int) * (i.bytes : Int)) := by
  rw [← Int.natCast_mul]; omega
 have hne : n ≠ 0 := by omega
 have hsz : i.size ≠ 0 := by omega
 have hw : IntKind.i64.wrap (n : Int) = (n : Int) := IntWalk.i64_in _ (by omega)
 have h63' : ¬ (9223372036854775807 < (n : Int)) := by omega
 have h48' : ¬ (281474976710656 < Builtin.nextslicecap n 0 * i.bytes) := by rw [nextslicecap_zero h0]; omega
 have hneg : ¬ ((n : Int) < 0) := by omega
 have ha : ∀ w' : World, Sem.run P (asInt (Value.int IntKind.i64 (n : Int))) w' = .ok (n : Int) w' := fun _ => rfl
 simp [ha, Builtin.append_, run_underlying ht, run_underlying hu, sizeOf, typeInfo, zeroValue, hi, hz, hw, hne, h63', h48', h48i, hneg, Question.forced, run_firstCells_none, newRow, grownCap]
 intro h
 rcases Nat.mul_eq_zero.1 h with h | h
 ·exact absurd h hne
 ·exact absurd h hsz
end
section
variable {P : Program} {ops : Array Oper} {rest : List Oper} {o : Oper} {a : Act} {Q : Exit → Act → World → Prop} {w : World}
theorem wpList_appRun {w' : World} (hgd : o.guard = none) (s x : Operand) (t u : TypeId)
  (ho : o.op = .call { callee := .builtin .append, args := #[s, x], argTypes := #[t, u] }) (v1 v2 v : Value) (hs : a.eval s = v1) (hx : a.eval x = v2)
  (hr : (Builtin.append_ #[t, u] o.type #[v1, v2]).run P w = .ok v w') (h : wpList P ops Q rest (a.put o.dst v) w') : wpList P ops Q (o :: rest) a w := by
 refine wpList_plain hgd fun K hK => ?_
 unfold Oper.wp execOp
 simp only [ho, resolve, invoke, builtin, Sem.run_bind, Sem.run_pure, Result.andThen_ok, List.map_toArray, List.map_cons, List.map_nil, hs, hx, hr]
 exact hK _ _ h
theorem wpList_appSl {t e : Nat} {B : Nat} {D : Type} {enc : D → Nat → Value} (R : RowTy P t e 1) (hgd : o.guard = none) (s x : Operand)
  (ho : o.op = .call { callee := .builtin .append, args := #[s, x], argTypes := #[t, t] })
  (base : Nat) (v : Value) (n : Nat) (xs : List Value) (hs : a.eval s = v) (hown : w.ownsRow base e 1 v n xs)
  {A : Option Addr} {l : List D} {c : Nat} (hS : Sl w B 1 enc A l) (hx : a.eval x = .slice A l.length c) (h1 : ∀ d, (enc d 0).oneCell' = true)
  (hn : n + l.length ≤ 1000000) (hbase : base ≤ w.heap.size)
  (h : ∀ v' w', w'.ownsRow base e 1 v' (n + l.length) (xs ++ l.map (enc · 0)) → Kept w w' (fun k => v.ownBlock = some k) → wpList P ops Q rest (a.put o.dst v') w') :
  wpList P ops Q (o :: rest) a w := by
 by_cases h0 : l.length = 0
 ·have hl : l = [] := List.length_eq_zero_iff.1 h0
  subst hl
  have hr := run_append_zero (P := P) R o.type hown A c
  refine wpList_plain hgd fun K hK => ?_
  unfold Oper.wp execOp
  rw [List.length_nil] at hx
  simp only [ho, resolve, invoke, builtin, Sem.run_bind, Sem.run_pure, Result.andThen_ok, List.map_toArray, List.map_cons, List.map_nil, hs, hx, hr]
  exact hK _ _ (h v w (by simpa using hown) (Kept.refl _ _))
 ·obtain ⟨b, off, d0, hA, hb, hd0, hc⟩ := hS.at (k := 0) (by omega)
  obtain ⟨b', o', e', hb', hall⟩ := hS.2 (by intro e; rw [e] at h0; exact h0 rfl)
  subst hA
  refine wpList_app R hgd s x ho base v n xs hs hown ⟨b, off, none⟩ l.length c (l.map (enc · 0)) hx (by simp) ?_ ?_ (by omega) hn hbase ?_
  ·intro j u hu
   rw [List.getElem?_map] at hu
   cases hx2 : l[j]? with
   | none => rw [hx2] at hu; cases hu
   | some d =>
    rw [hx2] at hu
    have hu := Option.some.inj hu
    subst hu
    have e := Option.some.inj e'
    injection e with e1 e2 _
    subst e1 e2
    have := hall j d hx2 0 (by omega)
    have hadd : (⟨b, off, none⟩ : Addr).add j = ⟨b, off + j * 1 + 0, none⟩ := by unfold Addr.add; split <;> simp_all
    rw [hadd]
    exact this
  ·intro u hu
   obtain ⟨d, _, rfl⟩ := List.mem_map.1 hu
   exact h1 d
  ·intro g cap w' hown' hk _ _
   exact h _ w' hown' hk
end
theorem drewW (w : World) : Below w.heap.size w w.drew := ⟨rfl, rfl, rfl, Nat.le_refl _, fun _ _ => rfl⟩
theorem grow_any (n : Nat) (hn : n ≤ 1000000) (w : World) : Calls Tryd.prog 76 #[.slice none 0 0, .int .i64 (n : Int)] w (Ret fun r w' => w'.ownsRow w.heap.size 9 1 r 0 [] ∧ Below w.heap.size w w') := by
 obtain ⟨i, hi, hz, hs1, hb1⟩ := info_parts info9
 by_cases h0 : n = 0
 ·subst h0
  go_enter Tryd.func76, Tryd.ntmps76
  go_wp2_with fail
  go_ret
  exact ⟨World.ownsRow_nil _ _ _ _, Below.refl _ _⟩
 ·have hr := run_append_zeros (P := Tryd.prog) (w := w) 22 3 22 9 i _ Tryd.underlying22 Tryd.underlying3 hi hz n (by omega) hn (by omega) (by omega)
  have hge := grownCap_ge w n 0 9
  have hcm : grownCap w n 0 9 ≤ maxLen := grownCap_le_maxLen w n 0 9 (by unfold maxLen; omega)
  have hcells : (Value.string ByteArray.empty).cells.size = 1 := rfl
  have hown := World.ownsRow_made (e := 9) (size := 1) w.drew (Builtin.zeroCells (Value.string ByteArray.empty).cells n ++ Builtin.zeroCells (Value.string ByteArray.empty).cells (grownCap w n 0 9 - n)) (grownCap w n 0 9) (base := w.heap.size) (Nat.le_refl _) hcm (by rw [Array.size_append, size_zeroCells', size_zeroCells', hcells]; omega)
  have hb := (drewW w).alloc (Nat.le_refl _) (.cells (Builtin.zeroCells (Value.string ByteArray.empty).cells n ++ Builtin.zeroCells (Value.string ByteArray.empty).cells (grownCap w n 0 9 - n)) 9)
  have hcap : n ≤ grownCap w n 0 9 := hge
  have hc63 : grownCap w n 0 9 ≤ 9223372036854775807 := by unfold maxLen at hcm; omega
  generalize grownCap w n 0 9 = cap at *
  generalize (w.drew.alloc (.cells (Builtin.zeroCells (Value.string ByteArray.empty).cells n ++ Builtin.zeroCells (Value.string ByteArray.empty).cells (cap - n)) 9)) = w1 at *
  have hH := hide hr
  have hO := hide hown
  have hB := hide hb
  clear hr hown hb hcm hge
  have h1 : 0 < n := by omega
  have h2 : (0 : Int) < (n : Int) := by omega
  go_enter Tryd.func76, Tryd.ntmps76
  go_wp2_with (at_builtin; refine wpList_appRun rfl _ _ _ _ rfl _ _ _ rfl rfl hH.out ?_)
  go_ret
  exact ⟨hO.out, hB.out⟩
def LL (w : World) (B b off : Nat) (ad : Nat → Option Addr) (cp : Nat → Nat) (ls : List (List ByteArray)) : Prop :=
 ∀ (k : Nat) (l : List ByteArray), ls[k]? = some l → w.cell? ⟨b, off + k, none⟩ = some (.slice (ad k) l.length (cp k)) ∧ Sl w B 1 encS (ad k) l
theorem flat_take {A : Type} {ls : List (List A)} {k : Nat} {l : List A} (h : ls[k]? = some l) : (ls.take (k + 1)).flatten = (ls.take k).flatten ++ l := by
 rw [show ls.take (k + 1) = ls.take k ++ [l] by rw [List.take_add_one, h]; rfl, List.flatten_append]
 simp
theorem flat_le {A : Type} (ls : List (List A)) (k : Nat) : (ls.take k).flatten.length ≤ ls.flatten.length := by
 conv => rhs; rw [← List.take_append_drop k ls, List.flatten_append, List.length_append]
 omega
def strV (l : List ByteArray) : List Value := l.map (encS · 0)
theorem concat_any {w : World} {B b off c : Nat} {ad : Nat → Option Addr} {cp : Nat → Nat} {ls : List (List ByteArray)} (h : LL w B b off ad cp ls) (hb : b < w.heap.size) (hB : B ≤ w.heap.size) (hn : ls.flatten.length ≤ 900000) (hk : ls.length ≤ 100) (hcp : ls.length ≤ c) :
  Calls Tryd.prog 59 #[.slice (some ⟨b, off, none⟩) ls.length c] w (Ret fun r w' => w'.ownsRow w.heap.size 9 1 r ls.flatten.length (strV ls.flatten) ∧ Below w.heap.size w w') := by
 have hH := hide h
 have hnH := hide hn
 clear h hn
 go_enter Tryd.func59, Tryd.ntmps59
 go_wp2_with fail
 go_loopw [3, 11] (fun tt ii wr => ∃ (k s : Nat), ii = .int .i64 (k : Int) ∧ tt = .int .i64 (s : Int) ∧ k ≤ ls.length ∧ s ≤ 900000 ∧ w = wr ∧ Hid (s = (ls.take k).flatten.length)) (fun _ ii _ => ls.length - (intOf ii).toNat)
 case atStart => exact ⟨0, 0, rfl, rfl, Nat.zero_le _, Nat.zero_le _, (by first | rfl | trivial), by show _ = _; simp⟩
 case round =>
  obtain ⟨k, s, rfl, rfl, hk2, hs, rfl, hE⟩ := hrel
  by_cases hlt : k < ls.length
  ·obtain ⟨l, hl⟩ : ∃ l, ls[k]? = some l := ⟨_, List.getElem?_eq_getElem hlt⟩
   obtain ⟨hc, hS⟩ := hH.out k l hl
   have hle := hide (flat_le ls (k + 1))
   have hft := hide (flat_take hl)
   have hs2 : s + l.length ≤ 900000 := by
    have h1 := hle.out
    have h2 := hnH.out
    rw [hft.out, List.length_append, ← hE.out] at h1
    omega
   have hlH := hide hl
   clear hS hl
   go_wp2_with fail
   exact ⟨⟨k + 1, s + l.length, by go_num, by go_num, by omega, by omega, (by first | rfl | trivial), by show _ = _; rw [hft.out, List.length_append, ← hE.out]⟩, by simp [intOf]; omega⟩
  ·have e : k = ls.length := by omega
   have hE2 := hE.out
   rw [e, List.take_length] at hE2
   have hE3 := hide hE2
   clear hE2 e hE
   go_wp2_with (go_at_call 76; refine Calls.ret (grow_any s (by omega) _) ?_; intro v0 w1 hr1)
   obtain ⟨hown, hb1⟩ := hr1
   have hownH := hide hown
   have hbH := hide hb1
   clear hown hb1
   go_wp2_with fail
   go_loopw [6, 27] (fun vv ii wr => ∃ (k : Nat) (n : Nat), ii = .int .i64 (k : Int) ∧ k ≤ ls.length ∧ Hid (wr.ownsRow w.heap.size 9 1 vv n (strV (ls.take k).flatten)) ∧ Hid (n = (ls.take k).flatten.length) ∧ Hid (Below w.heap.size w wr)) (fun _ ii _ => ls.length - (intOf ii).toNat)
   case atStart => exact ⟨0, 0, rfl, Nat.zero_le _, by show World.ownsRow _ _ _ _ _ _ _; simpa [strV] using hownH.out, by show _ = _; simp, hbH.out⟩
   case round =>
    obtain ⟨k, n, rfl, hk3, hO, hnn, hbb⟩ := hrel
    by_cases hlt : k < ls.length
    ·obtain ⟨l, hl⟩ : ∃ l, ls[k]? = some l := ⟨_, List.getElem?_eq_getElem hlt⟩
     obtain ⟨hc0, hS⟩ := hH.out k l hl
     have hc : wr.cell? ⟨b, off + k, none⟩ = some (.slice (ad k) l.length (cp k)) := by rw [← hc0]; exact World.cell?_of_block (hbb.out.block b hb)
     have hS2 := hide (hS.keep (fun p hp => World.cell?_of_block (hbb.out.block p.block (by omega))) (Nat.le_refl B))
     have hle := hide (flat_le ls (k + 1))
     have hft := hide (flat_take hl)
     have hs2 : n + l.length ≤ 900000 := by
      have h1 := hle.out
      have h2 := hnH.out
      rw [hft.out, List.length_append, ← hnn.out] at h1
      omega
     have hlH := hide hl
     clear hS hl hc0
     obtain ⟨Av, cv, hv⟩ := slice_of_own hO.out
     subst hv
     go_wp2_with (at_builtin; refine wpList_appSl rowS rfl _ _ rfl w.heap.size _ n _ rfl hO.out hS2.out rfl (fun d => rfl) (by omega) hbb.out.size ?_; intro v2 w2 hown2 hkept2)
     obtain ⟨Av2, cv2, hv2⟩ := slice_of_own hown2
     subst hv2
     go_wp2_with fail
     exact ⟨⟨k + 1, n + l.length, by go_num, by omega, by show World.ownsRow _ _ _ _ _ _ _; rw [hft.out]; simpa [strV] using hown2, by show _ = _; rw [hft.out, List.length_append, ← hnn.out], hbb.out.trans (hkept2.below hbb.out.size fun b' hb' e => by have := (hO.out.lt b' e).1; omega)⟩, by simp [intOf]; omega⟩
    ·have e : k = ls.length := by omega
     have hn2 := hnn.out
     rw [e, List.take_length] at hn2
     have hO2 := hO.out
     rw [e, List.take_length, hn2] at hO2
     have hO3 := hide hO2
     clear hO2 hn2 e hnn hO
     go_wp2_with fail
     go_ret
     exact ⟨hO3.out, hbb.out⟩
end Go.Proofs.YtbjdgepfhhafjaaDoor
namespace Go.Proofs.YtbjdgepfhhafjaaDoor
open Go.RowKit
def aggThr (g : Thr) : Value := .agg #[.int .i64 g.msg, .int .i64 g.coef, .int .i64 g.bound.c, .int .i64 g.bound.n, .int .i64 g.bound.t, .int .i64 g.bound.f]
theorem thr_eq (a b : Thr) : (a = b) ↔ (a.msg = b.msg ∧ a.coef = b.coef ∧ a.bound = b.bound) := by
 obtain ⟨_, _, _⟩ := a
 obtain ⟨_, _, _⟩ := b
 simp
theorem sameThr_any (a b : Thr) (w : World) : Calls Tryd.prog 82 #[aggThr a, aggThr b] w (Ret fun r w' => r = .bool (decide (a = b)) ∧ Below w.heap.size w w') := by
 obtain ⟨m, k, ⟨c, n, t, f⟩⟩ := a
 obtain ⟨m', k', ⟨c', n', t', f'⟩⟩ := b
 unfold aggThr
 obtain ⟨w1, hw1, hb1, hB1, hk1⟩ := box_blk w #[.int .i64 m, .int .i64 k, .int .i64 c, .int .i64 n, .int .i64 t, .int .i64 f] 113
 obtain ⟨w2, hw2, hb2, hB2, hk2⟩ := box_blk w1 #[.int .i64 m', .int .i64 k', .int .i64 c', .int .i64 n', .int .i64 t', .int .i64 f'] 113
 have hc2 := hB2.cell
 have hc1 := (hB1.below hb2).cell
 have hbH := hide (hb1.trans (hb2.mono hb1.size))
 clear hb1 hb2
 clear hB1 hB2 hk1 hk2
 by_cases h1 : m = m'
 ·have H1 := hide h1
  have q1 : (m == m') = true := by simp [h1]
  clear h1
  by_cases h2 : k = k'
  ·have H2 := hide h2
   have q2 : (k == k') = true := by simp [h2]
   clear h2
   go_enter Tryd.func82, Tryd.ntmps82
   go_wp2_with fail
   all_goals
    go_ret
    refine ⟨?_, hbH.out⟩
    have h1 := H1.out
    have h2 := H2.out
    simp [*]
  ·have H2 := hide h2
   have q2 : (k == k') = false := by simp [h2]
   clear h2
   go_enter Tryd.func82, Tryd.ntmps82
   go_wp2_with fail
   go_ret
   refine ⟨?_, hbH.out⟩
   have h2 := H2.out
   simp [h2]
 ·have H1 := hide h1
  have q1 : (m == m') = false := by simp [h1]
  clear h1
  go_enter Tryd.func82, Tryd.ntmps82
  go_wp2_with fail
  go_ret
  refine ⟨?_, hbH.out⟩
  have h1 := H1.out
  simp [h1]
theorem thrIndex_any {w : World} {B c : Nat} {A : Option Addr} {l : List Thr} {x : Thr} (h : Sl w B 6 encThr A l) (hB : B ≤ w.heap.size) : Calls Tryd.prog 72 #[.slice A l.length c, aggThr x] w (Ret fun r w' => (∃ z : Int, r = .int .i64 z ∧ (0 ≤ z ↔ x ∈ l)) ∧ Below w.heap.size w w') := by
 obtain ⟨m, k, ⟨fc, fn, ft, ff⟩⟩ := x
 unfold aggThr
 obtain ⟨w1, hw1, hb1, hB1, hk1⟩ := box_blk w #[.int .i64 m, .int .i64 k, .int .i64 fc, .int .i64 fn, .int .i64 ft, .int .i64 ff] 113
 have hs1 := hb1.size
 have hH := hide (h.keep (w' := w1) (B' := w.heap.size) (fun _ hp => hb1.cell (by omega)) hB)
 have hn := h.1
 have hbH := hide hb1
 have hBH := hide hB1
 clear h hB1 hk1 hb1
 go_enter Tryd.func72, Tryd.ntmps72
 go_wp2_with fail
 go_loopw [5] (fun ii wr => ∃ (k' : Nat), ii = .int .i64 (k' : Int) ∧ k' ≤ l.length ∧ Hid (Below w1.heap.size w1 wr) ∧ Hid ((⟨m, k, ⟨fc, fn, ft, ff⟩⟩ : Thr) ∉ l.take k')) (fun ii _ => l.length - (intOf ii).toNat)
 case atStart => exact ⟨0, rfl, Nat.zero_le _, Below.refl _ _, by show ¬ _; simp⟩
 case round =>
  obtain ⟨i, rfl, hi, hB, hE⟩ := hrel
  by_cases hlt : i < l.length
  ·obtain ⟨b, off, g, hA, hbk, he, hc⟩ := (hH.out.keep (w' := wr) (B' := w1.heap.size) (fun _ hp => hB.out.cell (by omega)) hs1).at hlt
   obtain ⟨gm, gk, ⟨gc, gn, gt, gf⟩⟩ := g
   have d0 := hc 0 (by omega)
   have d1 := hc 1 (by omega)
   have d2 := hc 2 (by omega)
   have d3 := hc 3 (by omega)
   have d4 := hc 4 (by omega)
   have d5 := hc 5 (by omega)
   simp only [Nat.add_zero, encThr] at d0 d1 d2 d3 d4 d5
   have hc1 := (hBH.out.below hB.out).cell
   have heH := hide he
   subst hA
   clear hc he
   cases hv : decide ((⟨gm, gk, ⟨gc, gn, gt, gf⟩⟩ : Thr) = ⟨m, k, ⟨fc, fn, ft, ff⟩⟩) with
   | true =>
    have hvH := hide hv
    clear hv
    have hmem := hide (show (⟨m, k, ⟨fc, fn, ft, ff⟩⟩ : Thr) ∈ l from by rw [← of_decide_eq_true hvH.out]; exact List.mem_of_getElem? heH.out)
    go_wp2_with fail
    refine Reg.cP [0, 0, 3, 7, 0, 31] ?_
    go_wp2_with (go_at_call 82; refine Calls.ret (sameThr_any ⟨gm, gk, ⟨gc, gn, gt, gf⟩⟩ ⟨m, k, ⟨fc, fn, ft, ff⟩⟩ _) ?_; rintro r w2 ⟨rfl, hb2⟩; rw [hvH.out]; have hb2H := hide (hB.out.trans (((drewB wr).trans hb2).mono hB.out.size)); clear hb2)
    go_ret
    exact ⟨⟨(i : Int), rfl, fun _ => hmem.out, fun _ => by omega⟩, hbH.out.trans (hb2H.out.mono hs1)⟩
   | false =>
    have hvH := hide hv
    clear hv
    go_wp2_with fail
    refine Reg.cP [0, 0, 3, 7, 0, 31] ?_
    go_wp2_with (go_at_call 82; refine Calls.ret (sameThr_any ⟨gm, gk, ⟨gc, gn, gt, gf⟩⟩ ⟨m, k, ⟨fc, fn, ft, ff⟩⟩ _) ?_; rintro r w2 ⟨rfl, hb2⟩; rw [hvH.out]; have hb2H := hide (hB.out.trans (((drewB wr).trans hb2).mono hB.out.size)); clear hb2)
    exact ⟨⟨i + 1, by go_num, by omega, hb2H.out, mem_take_no heH.out hE.out (of_decide_eq_false hvH.out)⟩, by simp [intOf]; omega⟩
  ·have e : i = l.length := by omega
   have hE2 := hE.out
   rw [e, List.take_length] at hE2
   have hE3 := hide hE2
   clear hE2 e
   go_wp2_with fail
   go_ret
   exact ⟨⟨-1, rfl, fun h => by omega, fun h => absurd h hE3.out⟩, hbH.out.trans (hB.out.mono hs1)⟩
theorem indexT_any {w : World} {B c : Nat} {A : Option Addr} {l : List Thr} {x : Thr} (h : Sl w B 6 encThr A l) (hB : B ≤ w.heap.size) : Calls Tryd.prog 79 #[.slice A l.length c, aggThr x] w (Ret fun r w' => (∃ z : Int, r = .int .i64 z ∧ (0 ≤ z ↔ x ∈ l)) ∧ Below w.heap.size w w') := by
 obtain ⟨m, k, ⟨fc, fn, ft, ff⟩⟩ := x
 unfold aggThr
 obtain ⟨w1, hw1, hb1, hB1, hk1⟩ := box_blk w #[.int .i64 m, .int .i64 k, .int .i64 fc, .int .i64 fn, .int .i64 ft, .int .i64 ff] 113
 have hs1 := hb1.size
 have hH := hide (h.keep (w' := w1) (B' := w.heap.size) (fun _ hp => hb1.cell (by omega)) hB)
 have hn := h.1
 have hbH := hide hb1
 have hBH := hide hB1
 clear h hB1 hk1 hb1
 go_enter Tryd.func79, Tryd.ntmps79
 go_wp2_with fail
 go_loopw [8] (fun ii wr => ∃ (k' : Nat), ii = .int .i64 (k' : Int) ∧ k' ≤ l.length ∧ Hid (Below w1.heap.size w1 wr) ∧ Hid ((⟨m, k, ⟨fc, fn, ft, ff⟩⟩ : Thr) ∉ l.take k')) (fun ii _ => l.length - (intOf ii).toNat)
 case atStart => exact ⟨0, rfl, Nat.zero_le _, Below.refl _ _, by show ¬ _; simp⟩
 case round =>
  obtain ⟨i, rfl, hi, hB, hE⟩ := hrel
  by_cases hlt : i < l.length
  ·obtain ⟨b, off, g, hA, hbk, he, hc⟩ := (hH.out.keep (w' := wr) (B' := w1.heap.size) (fun _ hp => hB.out.cell (by omega)) hs1).at hlt
   obtain ⟨gm, gk, ⟨gc, gn, gt, gf⟩⟩ := g
   have d0 := hc 0 (by omega)
   have d1 := hc 1 (by omega)
   have d2 := hc 2 (by omega)
   have d3 := hc 3 (by omega)
   have d4 := hc 4 (by omega)
   have d5 := hc 5 (by omega)
   simp only [Nat.add_zero, encThr] at d0 d1 d2 d3 d4 d5
   have hc1 := (hBH.out.below hB.out).cell
   have heH := hide he
   subst hA
   clear hc he
   have hb2H := hide (hB.out.trans ((drewB wr).mono hB.out.size))
   by_cases h0 : m = gm
   ·have H0 := hide h0
    have q0 : (m == gm) = true := by simp [h0]
    clear h0
    by_cases h1 : k = gk
    ·have H1 := hide h1
     have q1 : (k == gk) = true := by simp [h1]
     clear h1
     by_cases h2 : fc = gc
     ·have H2 := hide h2
      have q2 : (fc == gc) = true := by simp [h2]
      clear h2
      by_cases h3 : fn = gn
      ·have H3 := hide h3
       have q3 : (fn == gn) = true := by simp [h3]
       clear h3
       by_cases h4 : ft = gt
       ·have H4 := hide h4
        have q4 : (ft == gt) = true := by simp [h4]
        clear h4
        by_cases h5 : ff = gf
        ·have H5 := hide h5
         have q5 : (ff == gf) = true := by simp [h5]
         clear h5
         go_wp2_with fail
         refine Reg.cP [0, 0, 0, 6, 14, 31] ?_
         go_wp2_with fail
         go_ret
         refine ⟨⟨(i : Int), rfl, fun _ => List.mem_of_getElem? (i := i) ?_, fun _ => by omega⟩, hbH.out.trans (hb2H.out.mono hs1)⟩
         rw [heH.out, H0.out, H1.out, H2.out, H3.out, H4.out, H5.out]
        ·have H5 := hide h5
         have q5 : (ff == gf) = false := by simp [h5]
         clear h5
         have hno := hide (mem_take_no heH.out hE.out (fun e => by have h := H5.out; simp only [Thr.mk.injEq, Lin.mk.injEq] at e; omega))
         go_wp2_with fail
         refine Reg.cP [0, 0, 0, 6, 14, 31] ?_
         go_wp2_with fail
         exact ⟨⟨i + 1, by go_num, by omega, hb2H.out, hno.out⟩, by simp [intOf]; omega⟩
       ·have H4 := hide h4
        have q4 : (ft == gt) = false := by simp [h4]
        clear h4
        have hno := hide (mem_take_no heH.out hE.out (fun e => by have h := H4.out; simp only [Thr.mk.injEq, Lin.mk.injEq] at e; omega))
        go_wp2_with fail
        refine Reg.cP [0, 0, 0, 6, 14, 31] ?_
        go_wp2_with fail
        exact ⟨⟨i + 1, by go_num, by omega, hb2H.out, hno.out⟩, by simp [intOf]; omega⟩
      ·have H3 := hide h3
       have q3 : (fn == gn) = false := by simp [h3]
       clear h3
       have hno := hide (mem_take_no heH.out hE.out (fun e => by have h := H3.out; simp only [Thr.mk.injEq, Lin.mk.injEq] at e; omega))
       go_wp2_with fail
       refine Reg.cP [0, 0, 0, 6, 14, 31] ?_
       go_wp2_with fail
       exact ⟨⟨i + 1, by go_num, by omega, hb2H.out, hno.out⟩, by simp [intOf]; omega⟩
     ·have H2 := hide h2
      have q2 : (fc == gc) = false := by simp [h2]
      clear h2
      have hno := hide (mem_take_no heH.out hE.out (fun e => by have h := H2.out; simp only [Thr.mk.injEq, Lin.mk.injEq] at e; omega))
      go_wp2_with fail
      refine Reg.cP [0, 0, 0, 6, 14, 31] ?_
      go_wp2_with fail
      exact ⟨⟨i + 1, by go_num, by omega, hb2H.out, hno.out⟩, by simp [intOf]; omega⟩
    ·have H1 := hide h1
     have q1 : (k == gk) = false := by simp [h1]
     clear h1
     have hno := hide (mem_take_no heH.out hE.out (fun e => by have h := H1.out; simp only [Thr.mk.injEq, Lin.mk.injEq] at e; omega))
     go_wp2_with fail
     refine Reg.cP [0, 0, 0, 6, 14, 31] ?_
     go_wp2_with fail
     exact ⟨⟨i + 1, by go_num, by omega, hb2H.out, hno.out⟩, by simp [intOf]; omega⟩
   ·have H0 := hide h0
    have q0 : (m == gm) = false := by simp [h0]
    clear h0
    have hno := hide (mem_take_no heH.out hE.out (fun e => by have h := H0.out; simp only [Thr.mk.injEq, Lin.mk.injEq] at e; omega))
    go_wp2_with fail
    refine Reg.cP [0, 0, 0, 6, 14, 31] ?_
    go_wp2_with fail
    exact ⟨⟨i + 1, by go_num, by omega, hb2H.out, hno.out⟩, by simp [intOf]; omega⟩
  ·have e : i = l.length := by omega
   have hE2 := hE.out
   rw [e, List.take_length] at hE2
   have hE3 := hide hE2
   clear hE2 e
   go_wp2_with fail
   go_ret
   exact ⟨⟨-1, rfl, fun h => by omega, fun h => absurd h hE3.out⟩, hbH.out.trans (hB.out.mono hs1)⟩
theorem containsT_any {w : World} {B c : Nat} {A : Option Addr} {l : List Thr} {x : Thr} (h : Sl w B 6 encThr A l) (hB : B ≤ w.heap.size) : Calls Tryd.prog 69 #[.slice A l.length c, aggThr x] w (Ret fun r w' => r = .bool (decide (x ∈ l)) ∧ Below w.heap.size w w') := by
 have hx : aggThr x = .agg #[.int .i64 x.msg, .int .i64 x.coef, .int .i64 x.bound.c, .int .i64 x.bound.n, .int .i64 x.bound.t, .int .i64 x.bound.f] := rfl
 obtain ⟨w1, hw1, hb1, hB1, hk1⟩ := box_blk w #[.int .i64 x.msg, .int .i64 x.coef, .int .i64 x.bound.c, .int .i64 x.bound.n, .int .i64 x.bound.t, .int .i64 x.bound.f] 113
 have hc1 := hB1.cell
 have hs1 := hb1.size
 have hH := hide (h.keep (w' := w1) (B' := w.heap.size) (fun _ hp => hb1.cell (by omega)) hB)
 have hn := h.1
 have hbH := hide hb1
 have hcall := hide (indexT_any (c := c) (x := x) hH.out (by omega))
 rw [hx] at hcall
 rw [hx]
 clear h hk1 hb1 hB1 hx
 go_enter Tryd.func69, Tryd.ntmps69
 go_wp2_with (go_at_call 79; refine Calls.ret hcall.out ?_; rintro r w' ⟨⟨z, rfl, hz⟩, hb2⟩; have hb2H := hide hb2; clear hb2)
 have hzH := hide hz
 clear hz
 go_ret
 refine ⟨?_, hbH.out.trans (hb2H.out.mono hs1)⟩
 have : decide (x ∈ l) = decide (0 ≤ z) := decide_eq_decide.2 hzH.out.symm
 rw [this]
 first | rfl | trace_state
end Go.Proofs.YtbjdgepfhhafjaaDoor
