/-
  Part XG of a proof.
-/
import Derived.Deep.MidRow
import Derived.Deep.WholeRow
import Derived.Test.YtbjdgepfhhafjaaDoorXA
import Derived.Test.YtbjdgepfhhafjaaDoorXF
set_option maxHeartbeats 16000000
set_option maxRecDepth 100000
set_option linter.unusedVariables false
set_option linter.unusedSimpArgs false
namespace Go.Proofs.YtbjdgepfhhafjaaDoor
open Go.RowKit
theorem fits_any (kind topo : Int) (w : World) : Calls Tryd.prog 64 #[.int .i64 kind, .int .i64 topo] w fun r w' => r = .returned (.bool (fitsP kind topo)) ∧ w = w' := by
 have e : ∀ a b : Int, (a == b) = decide (a = b) := fun a b => by rw [Bool.eq_iff_iff]; simp
 by_cases h1 : kind = 1
 ·subst h1
  go_enter Tryd.func64, Tryd.ntmps64
  go_wp2
  go_ret
  exact ⟨by simp [fitsP], rfl⟩
 by_cases h2 : kind = 2
 ·subst h2
  go_enter Tryd.func64, Tryd.ntmps64
  go_wp2
  go_ret
  exact ⟨by simp [fitsP], rfl⟩
 by_cases h3 : kind = 3
 ·subst h3
  go_enter Tryd.func64, Tryd.ntmps64
  go_wp2
  go_ret
  exact ⟨by simp [fitsP], rfl⟩
 by_cases h4 : kind = 4
 ·subst h4
  go_enter Tryd.func64, Tryd.ntmps64
  go_wp2
  go_ret
  exact ⟨by simp [fitsP, bne, e], rfl⟩
 by_cases h5 : kind = 5
 ·subst h5
  go_enter Tryd.func64, Tryd.ntmps64
  go_wp2
  go_ret
  exact ⟨by simp [fitsP, bne, e], rfl⟩
 ·have e1 : (kind == 1) = false := by simp [h1]
  have e2 : (kind == 2) = false := by simp [h2]
  have e3 : (kind == 3) = false := by simp [h3]
  have e4 : (kind == 4) = false := by simp [h4]
  have e5 : (kind == 5) = false := by simp [h5]
  have hf := hide (show fitsP kind topo = false by simp [fitsP, h1, h2, h3, h4, h5])
  clear h1 h2 h3 h4 h5 e
  go_enter Tryd.func64, Tryd.ntmps64
  go_wp2
  go_ret
  exact ⟨by rw [hf.out]; rfl, rfl⟩
def RuleD.Small (r : RuleD) : Prop := r.resp.length ≤ 60 ∧ r.guards.length ≤ 60 ∧ r.ex.length ≤ 60 ∧ r.fa.length ≤ 60 ∧ r.send.length ≤ 60 ∧ r.left.length ≤ 60 ∧ r.right.length ≤ 60 ∧ r.parent.length ≤ 60
theorem surplus_1 {w : World} {cs : List Value} {r : RuleD} {topo : Int} (h : RuleIs w w.heap.size cs r) (hs : r.Small) (q1 : r.kind = 1) : Calls Tryd.prog 65 #[.agg cs.toArray, .int .i64 topo] w (Ret fun v w' => v = .bool (surplusP topo r) ∧ Below w.heap.size w w') := by
 obtain ⟨A1, c1, A2, c2, A3, c3, A4, c4, A5, c5, A6, c6, A7, c7, A8, c8, rfl, -⟩ := h
 obtain ⟨n1, n2, n3, n4, n5, n6, n7, n8⟩ := hs
 have e1 : (r.kind == 1) = true := by simp [q1]
 by_cases hS : 0 < r.resp.length + r.left.length + r.right.length + r.parent.length
 ·have hS2 : 0 < ((r.resp.length : Int) + (r.left.length : Int) + (r.right.length : Int) + (r.parent.length : Int) : Int) := by omega
  have hz := hide (show surplusP topo r = true from by
   simp [surplusP, restP, q1, hS]
   try omega)
  go_enter Tryd.func65, Tryd.ntmps65
  go_wp2_with fail
  go_ret
  exact ⟨by rw [hz.out]; rfl, (Below.refl _ _).alloc (Nat.le_refl _) _⟩
 have hS2 : ¬ 0 < ((r.resp.length : Int) + (r.left.length : Int) + (r.right.length : Int) + (r.parent.length : Int) : Int) := by omega
 by_cases h_pf : r.pf = 0
 case neg =>
  have hb_pf : (r.pf != 0) = true := by simp [h_pf]
  have hz := hide (show surplusP topo r = true from by
   simp [surplusP, restP, q1, hS, h_pf]
   try omega)
  go_enter Tryd.func65, Tryd.ntmps65
  go_wp2_with fail
  go_ret
  exact ⟨by rw [hz.out]; rfl, (Below.refl _ _).alloc (Nat.le_refl _) _⟩
 have hb_pf : (r.pf != 0) = false := by simp [h_pf]
 by_cases h_pt : r.pt = 0
 case neg =>
  have hb_pt : (r.pt != 0) = true := by simp [h_pt]
  have hz := hide (show surplusP topo r = true from by
   simp [surplusP, restP, q1, hS, h_pf, h_pt]
   try omega)
  go_enter Tryd.func65, Tryd.ntmps65
  go_wp2_with fail
  go_ret
  exact ⟨by rw [hz.out]; rfl, (Below.refl _ _).alloc (Nat.le_refl _) _⟩
 have hb_pt : (r.pt != 0) = false := by simp [h_pt]
 by_cases h_at_ : r.at_ = 0
 case neg =>
  have hb_at_ : (r.at_ != 0) = true := by simp [h_at_]
  have hz := hide (show surplusP topo r = true from by
   simp [surplusP, restP, q1, hS, h_pf, h_pt, h_at_]
   try omega)
  go_enter Tryd.func65, Tryd.ntmps65
  go_wp2_with fail
  go_ret
  exact ⟨by rw [hz.out]; rfl, (Below.refl _ _).alloc (Nat.le_refl _) _⟩
 have hb_at_ : (r.at_ != 0) = false := by simp [h_at_]
 by_cases h_dir : r.dir = 0
 case neg =>
  have hb_dir : (r.dir != 0) = true := by simp [h_dir]
  have hz := hide (show surplusP topo r = true from by
   simp [surplusP, restP, q1, hS, h_pf, h_pt, h_at_, h_dir]
   try omega)
  go_enter Tryd.func65, Tryd.ntmps65
  go_wp2_with fail
  go_ret
  exact ⟨by rw [hz.out]; rfl, (Below.refl _ _).alloc (Nat.le_refl _) _⟩
 have hb_dir : (r.dir != 0) = false := by simp [h_dir]
 have hz := hide (show surplusP topo r = false from by
  simp [surplusP, restP, q1, hS, h_pf, h_pt, h_at_, h_dir]
  try omega)
 go_enter Tryd.func65, Tryd.ntmps65
 go_wp2_with fail
 go_ret
 exact ⟨by rw [hz.out]; rfl, (Below.refl _ _).alloc (Nat.le_refl _) _⟩
theorem surplus_2 {w : World} {cs : List Value} {r : RuleD} {topo : Int} (h : RuleIs w w.heap.size cs r) (hs : r.Small) (q2 : r.kind = 2) : Calls Tryd.prog 65 #[.agg cs.toArray, .int .i64 topo] w (Ret fun v w' => v = .bool (surplusP topo r) ∧ Below w.heap.size w w') := by
 obtain ⟨A1, c1, A2, c2, A3, c3, A4, c4, A5, c5, A6, c6, A7, c7, A8, c8, rfl, -⟩ := h
 obtain ⟨n1, n2, n3, n4, n5, n6, n7, n8⟩ := hs
 have e1 : (r.kind == 1) = false := by simp [q2]
 have e2 : (r.kind == 2) = true := by simp [q2]
 by_cases hr : 0 < r.resp.length
 ·have hr2 : 0 < (r.resp.length : Int) := by omega
  have hz := hide (show surplusP topo r = true from by
   simp [surplusP, q2, hr])
  go_enter Tryd.func65, Tryd.ntmps65
  go_wp2_with fail
  go_ret
  exact ⟨by rw [hz.out]; rfl, (Below.refl _ _).alloc (Nat.le_refl _) _⟩
 have hr2 : ¬ 0 < (r.resp.length : Int) := by omega
 by_cases hS : 0 < r.guards.length + r.ex.length + r.fa.length + r.send.length + r.left.length + r.right.length + r.parent.length
 ·have hS2 : 0 < ((r.guards.length : Int) + (r.ex.length : Int) + (r.fa.length : Int) + (r.send.length : Int) + (r.left.length : Int) + (r.right.length : Int) + (r.parent.length : Int) : Int) := by omega
  have hz := hide (show surplusP topo r = true from by
   simp [surplusP, restP, q2, hr, hS]
   try omega)
  go_enter Tryd.func65, Tryd.ntmps65
  go_wp2_with fail
  go_ret
  exact ⟨by rw [hz.out]; rfl, (Below.refl _ _).alloc (Nat.le_refl _) _⟩
 have hS2 : ¬ 0 < ((r.guards.length : Int) + (r.ex.length : Int) + (r.fa.length : Int) + (r.send.length : Int) + (r.left.length : Int) + (r.right.length : Int) + (r.parent.length : Int) : Int) := by omega
 by_cases h_at_ : r.at_ = 0
 case neg =>
  have hb_at_ : (r.at_ != 0) = true := by simp [h_at_]
  have hz := hide (show surplusP topo r = true from by
   simp [surplusP, restP, q2, hr, hS, h_at_]
   try omega)
  go_enter Tryd.func65, Tryd.ntmps65
  go_wp2_with fail
  go_ret
  exact ⟨by rw [hz.out]; rfl, (Below.refl _ _).alloc (Nat.le_refl _) _⟩
 have hb_at_ : (r.at_ != 0) = false := by simp [h_at_]
 by_cases h_dir : r.dir = 0
 case neg =>
  have hb_dir : (r.dir != 0) = true := by simp [h_dir]
  have hz := hide (show surplusP topo r = true from by
   simp [surplusP, restP, q2, hr, hS, h_at_, h_dir]
   try omega)
  go_enter Tryd.func65, Tryd.ntmps65
  go_wp2_with fail
  go_ret
  exact ⟨by rw [hz.out]; rfl, (Below.refl _ _).alloc (Nat.le_refl _) _⟩
 have hb_dir : (r.dir != 0) = false := by simp [h_dir]
 have hz := hide (show surplusP topo r = false from by
  simp [surplusP, restP, q2, hr, hS, h_at_, h_dir]
  try omega)
 go_enter Tryd.func65, Tryd.ntmps65
 go_wp2_with fail
 go_ret
 exact ⟨by rw [hz.out]; rfl, (Below.refl _ _).alloc (Nat.le_refl _) _⟩
theorem surplus_3 {w : World} {cs : List Value} {r : RuleD} {topo : Int} (h : RuleIs w w.heap.size cs r) (hs : r.Small) (q3 : r.kind = 3) : Calls Tryd.prog 65 #[.agg cs.toArray, .int .i64 topo] w (Ret fun v w' => v = .bool (surplusP topo r) ∧ Below w.heap.size w w') := by
 obtain ⟨A1, c1, A2, c2, A3, c3, A4, c4, A5, c5, A6, c6, A7, c7, A8, c8, rfl, -⟩ := h
 obtain ⟨n1, n2, n3, n4, n5, n6, n7, n8⟩ := hs
 have e1 : (r.kind == 1) = false := by simp [q3]
 have e2 : (r.kind == 2) = false := by simp [q3]
 have e3 : (r.kind == 3) = true := by simp [q3]
 by_cases hS : 0 < r.guards.length + r.ex.length + r.fa.length + r.send.length + r.left.length + r.right.length + r.parent.length
 ·have hS2 : 0 < ((r.guards.length : Int) + (r.ex.length : Int) + (r.fa.length : Int) + (r.send.length : Int) + (r.left.length : Int) + (r.right.length : Int) + (r.parent.length : Int) : Int) := by omega
  have hz := hide (show surplusP topo r = true from by
   simp [surplusP, restP, q3, hS]
   try omega)
  go_enter Tryd.func65, Tryd.ntmps65
  go_wp2_with fail
  go_ret
  exact ⟨by rw [hz.out]; rfl, (Below.refl _ _).alloc (Nat.le_refl _) _⟩
 have hS2 : ¬ 0 < ((r.guards.length : Int) + (r.ex.length : Int) + (r.fa.length : Int) + (r.send.length : Int) + (r.left.length : Int) + (r.right.length : Int) + (r.parent.length : Int) : Int) := by omega
 by_cases h_pf : r.pf = 0
 case neg =>
  have hb_pf : (r.pf != 0) = true := by simp [h_pf]
  have hz := hide (show surplusP topo r = true from by
   simp [surplusP, restP, q3, hS, h_pf]
   try omega)
  go_enter Tryd.func65, Tryd.ntmps65
  go_wp2_with fail
  go_ret
  exact ⟨by rw [hz.out]; rfl, (Below.refl _ _).alloc (Nat.le_refl _) _⟩
 have hb_pf : (r.pf != 0) = false := by simp [h_pf]
 by_cases h_pt : r.pt = 0
 case neg =>
  have hb_pt : (r.pt != 0) = true := by simp [h_pt]
  have hz := hide (show surplusP topo r = true from by
   simp [surplusP, restP, q3, hS, h_pf, h_pt]
   try omega)
  go_enter Tryd.func65, Tryd.ntmps65
  go_wp2_with fail
  go_ret
  exact ⟨by rw [hz.out]; rfl, (Below.refl _ _).alloc (Nat.le_refl _) _⟩
 have hb_pt : (r.pt != 0) = false := by simp [h_pt]
 by_cases h_at_ : r.at_ = 0
 case neg =>
  have hb_at_ : (r.at_ != 0) = true := by simp [h_at_]
  have hz := hide (show surplusP topo r = true from by
   simp [surplusP, restP, q3, hS, h_pf, h_pt, h_at_]
   try omega)
  go_enter Tryd.func65, Tryd.ntmps65
  go_wp2_with fail
  go_ret
  exact ⟨by rw [hz.out]; rfl, (Below.refl _ _).alloc (Nat.le_refl _) _⟩
 have hb_at_ : (r.at_ != 0) = false := by simp [h_at_]
 by_cases h_dir : r.dir = 0
 case neg =>
  have hb_dir : (r.dir != 0) = true := by simp [h_dir]
  have hz := hide (show surplusP topo r = true from by
   simp [surplusP, restP, q3, hS, h_pf, h_pt, h_at_, h_dir]
   try omega)
  go_enter Tryd.func65, Tryd.ntmps65
  go_wp2_with fail
  go_ret
  exact ⟨by rw [hz.out]; rfl, (Below.refl _ _).alloc (Nat.le_refl _) _⟩
 have hb_dir : (r.dir != 0) = false := by simp [h_dir]
 have hz := hide (show surplusP topo r = false from by
  simp [surplusP, restP, q3, hS, h_pf, h_pt, h_at_, h_dir]
  try omega)
 go_enter Tryd.func65, Tryd.ntmps65
 go_wp2_with fail
 go_ret
 exact ⟨by rw [hz.out]; rfl, (Below.refl _ _).alloc (Nat.le_refl _) _⟩
theorem surplus_4 {w : World} {cs : List Value} {r : RuleD} {topo : Int} (h : RuleIs w w.heap.size cs r) (hs : r.Small) (q4 : r.kind = 4) (ht : topo = 4) : Calls Tryd.prog 65 #[.agg cs.toArray, .int .i64 topo] w (Ret fun v w' => v = .bool (surplusP topo r) ∧ Below w.heap.size w w') := by
 obtain ⟨A1, c1, A2, c2, A3, c3, A4, c4, A5, c5, A6, c6, A7, c7, A8, c8, rfl, -⟩ := h
 obtain ⟨n1, n2, n3, n4, n5, n6, n7, n8⟩ := hs
 have e1 : (r.kind == 1) = false := by simp [q4]
 have e2 : (r.kind == 2) = false := by simp [q4]
 have e3 : (r.kind == 3) = false := by simp [q4]
 have e4 : (r.kind == 4) = true := by simp [q4]
 subst ht
 by_cases hS : 0 < r.resp.length + r.guards.length + r.ex.length + r.fa.length + r.send.length
 ·have hS2 : 0 < ((r.resp.length : Int) + (r.guards.length : Int) + (r.ex.length : Int) + (r.fa.length : Int) + (r.send.length : Int) : Int) := by omega
  have hz := hide (show surplusP 4 r = true from by
   simp [surplusP, restP, q4, hS]
   try omega)
  go_enter Tryd.func65, Tryd.ntmps65
  go_wp2_with fail
  go_ret
  exact ⟨by rw [hz.out]; rfl, (Below.refl _ _).alloc (Nat.le_refl _) _⟩
 have hS2 : ¬ 0 < ((r.resp.length : Int) + (r.guards.length : Int) + (r.ex.length : Int) + (r.fa.length : Int) + (r.send.length : Int) : Int) := by omega
 by_cases h_pf : r.pf = 0
 case neg =>
  have hb_pf : (r.pf != 0) = true := by simp [h_pf]
  have hz := hide (show surplusP 4 r = true from by
   simp [surplusP, restP, q4, hS, h_pf]
   try omega)
  go_enter Tryd.func65, Tryd.ntmps65
  go_wp2_with fail
  go_ret
  exact ⟨by rw [hz.out]; rfl, (Below.refl _ _).alloc (Nat.le_refl _) _⟩
 have hb_pf : (r.pf != 0) = false := by simp [h_pf]
 by_cases h_pt : r.pt = 0
 case neg =>
  have hb_pt : (r.pt != 0) = true := by simp [h_pt]
  have hz := hide (show surplusP 4 r = true from by
   simp [surplusP, restP, q4, hS, h_pf, h_pt]
   try omega)
  go_enter Tryd.func65, Tryd.ntmps65
  go_wp2_with fail
  go_ret
  exact ⟨by rw [hz.out]; rfl, (Below.refl _ _).alloc (Nat.le_refl _) _⟩
 have hb_pt : (r.pt != 0) = false := by simp [h_pt]
 by_cases h_dir : r.dir = 0
 case neg =>
  have hb_dir : (r.dir != 0) = true := by simp [h_dir]
  have hz := hide (show surplusP 4 r = true from by
   simp [surplusP, restP, q4, hS, h_pf, h_pt, h_dir]
   try omega)
  go_enter Tryd.func65, Tryd.ntmps65
  go_wp2_with fail
  go_ret
  exact ⟨by rw [hz.out]; rfl, (Below.refl _ _).alloc (Nat.le_refl _) _⟩
 have hb_dir : (r.dir != 0) = false := by simp [h_dir]
 by_cases h_rd : r.rd = -1
 case neg =>
  have hb_rd : (r.rd != -1) = true := by simp [h_rd]
  have hz := hide (show surplusP 4 r = true from by
   simp [surplusP, restP, q4, hS, h_pf, h_pt, h_dir, h_rd]
   try omega)
  go_enter Tryd.func65, Tryd.ntmps65
  go_wp2_with fail
  go_ret
  exact ⟨by rw [hz.out]; rfl, (Below.refl _ _).alloc (Nat.le_refl _) _⟩
 have hb_rd : (r.rd != -1) = false := by simp [h_rd]
 by_cases h_wr : r.wr = -1
 case neg =>
  have hb_wr : (r.wr != -1) = true := by simp [h_wr]
  have hz := hide (show surplusP 4 r = true from by
   simp [surplusP, restP, q4, hS, h_pf, h_pt, h_dir, h_rd, h_wr]
   try omega)
  go_enter Tryd.func65, Tryd.ntmps65
  go_wp2_with fail
  go_ret
  exact ⟨by rw [hz.out]; rfl, (Below.refl _ _).alloc (Nat.le_refl _) _⟩
 have hb_wr : (r.wr != -1) = false := by simp [h_wr]
 have hz := hide (show surplusP 4 r = false from by
  simp [surplusP, restP, q4, hS, h_pf, h_pt, h_dir, h_rd, h_wr]
  try omega)
 go_enter Tryd.func65, Tryd.ntmps65
 go_wp2_with fail
 go_ret
 exact ⟨by rw [hz.out]; rfl, (Below.refl _ _).alloc (Nat.le_refl _) _⟩
theorem surplus_4n {w : World} {cs : List Value} {r : RuleD} {topo : Int} (h : RuleIs w w.heap.size cs r) (hs : r.Small) (q4 : r.kind = 4) (ht : ¬ topo = 4) : Calls Tryd.prog 65 #[.agg cs.toArray, .int .i64 topo] w (Ret fun v w' => v = .bool (surplusP topo r) ∧ Below w.heap.size w w') := by
 obtain ⟨A1, c1, A2, c2, A3, c3, A4, c4, A5, c5, A6, c6, A7, c7, A8, c8, rfl, -⟩ := h
 obtain ⟨n1, n2, n3, n4, n5, n6, n7, n8⟩ := hs
 have e1 : (r.kind == 1) = false := by simp [q4]
 have e2 : (r.kind == 2) = false := by simp [q4]
 have e3 : (r.kind == 3) = false := by simp [q4]
 have e4 : (r.kind == 4) = true := by simp [q4]
 have et : (topo == 4) = false := by simp [ht]
 by_cases hS : 0 < r.resp.length + r.guards.length + r.ex.length + r.fa.length + r.send.length + r.parent.length
 ·have hS2 : 0 < ((r.resp.length : Int) + (r.guards.length : Int) + (r.ex.length : Int) + (r.fa.length : Int) + (r.send.length : Int) + (r.parent.length : Int) : Int) := by omega
  have hz := hide (show surplusP topo r = true from by
   simp [surplusP, restP, q4, ht, hS]
   try omega)
  go_enter Tryd.func65, Tryd.ntmps65
  go_wp2_with fail
  go_ret
  exact ⟨by rw [hz.out]; rfl, (Below.refl _ _).alloc (Nat.le_refl _) _⟩
 have hS2 : ¬ 0 < ((r.resp.length : Int) + (r.guards.length : Int) + (r.ex.length : Int) + (r.fa.length : Int) + (r.send.length : Int) + (r.parent.length : Int) : Int) := by omega
 by_cases h_pf : r.pf = 0
 case neg =>
  have hb_pf : (r.pf != 0) = true := by simp [h_pf]
  have hz := hide (show surplusP topo r = true from by
   simp [surplusP, restP, q4, ht, hS, h_pf]
   try omega)
  go_enter Tryd.func65, Tryd.ntmps65
  go_wp2_with fail
  go_ret
  exact ⟨by rw [hz.out]; rfl, (Below.refl _ _).alloc (Nat.le_refl _) _⟩
 have hb_pf : (r.pf != 0) = false := by simp [h_pf]
 by_cases h_pt : r.pt = 0
 case neg =>
  have hb_pt : (r.pt != 0) = true := by simp [h_pt]
  have hz := hide (show surplusP topo r = true from by
   simp [surplusP, restP, q4, ht, hS, h_pf, h_pt]
   try omega)
  go_enter Tryd.func65, Tryd.ntmps65
  go_wp2_with fail
  go_ret
  exact ⟨by rw [hz.out]; rfl, (Below.refl _ _).alloc (Nat.le_refl _) _⟩
 have hb_pt : (r.pt != 0) = false := by simp [h_pt]
 by_cases h_dir : r.dir = 0
 case neg =>
  have hb_dir : (r.dir != 0) = true := by simp [h_dir]
  have hz := hide (show surplusP topo r = true from by
   simp [surplusP, restP, q4, ht, hS, h_pf, h_pt, h_dir]
   try omega)
  go_enter Tryd.func65, Tryd.ntmps65
  go_wp2_with fail
  go_ret
  exact ⟨by rw [hz.out]; rfl, (Below.refl _ _).alloc (Nat.le_refl _) _⟩
 have hb_dir : (r.dir != 0) = false := by simp [h_dir]
 by_cases h_rd : r.rd = -1
 case neg =>
  have hb_rd : (r.rd != -1) = true := by simp [h_rd]
  have hz := hide (show surplusP topo r = true from by
   simp [surplusP, restP, q4, ht, hS, h_pf, h_pt, h_dir, h_rd]
   try omega)
  go_enter Tryd.func65, Tryd.ntmps65
  go_wp2_with fail
  go_ret
  exact ⟨by rw [hz.out]; rfl, (Below.refl _ _).alloc (Nat.le_refl _) _⟩
 have hb_rd : (r.rd != -1) = false := by simp [h_rd]
 by_cases h_wr : r.wr = -1
 case neg =>
  have hb_wr : (r.wr != -1) = true := by simp [h_wr]
  have hz := hide (show surplusP topo r = true from by
   simp [surplusP, restP, q4, ht, hS, h_pf, h_pt, h_dir, h_rd, h_wr]
   try omega)
  go_enter Tryd.func65, Tryd.ntmps65
  go_wp2_with fail
  go_ret
  exact ⟨by rw [hz.out]; rfl, (Below.refl _ _).alloc (Nat.le_refl _) _⟩
 have hb_wr : (r.wr != -1) = false := by simp [h_wr]
 have hz := hide (show surplusP topo r = false from by
  simp [surplusP, restP, q4, ht, hS, h_pf, h_pt, h_dir, h_rd, h_wr]
  try omega)
 go_enter Tryd.func65, Tryd.ntmps65
 go_wp2_with fail
 go_ret
 exact ⟨by rw [hz.out]; rfl, (Below.refl _ _).alloc (Nat.le_refl _) _⟩
theorem surplus_5 {w : World} {cs : List Value} {r : RuleD} {topo : Int} (h : RuleIs w w.heap.size cs r) (hs : r.Small) (q5 : r.kind = 5) : Calls Tryd.prog 65 #[.agg cs.toArray, .int .i64 topo] w (Ret fun v w' => v = .bool (surplusP topo r) ∧ Below w.heap.size w w') := by
 obtain ⟨A1, c1, A2, c2, A3, c3, A4, c4, A5, c5, A6, c6, A7, c7, A8, c8, rfl, -⟩ := h
 obtain ⟨n1, n2, n3, n4, n5, n6, n7, n8⟩ := hs
 have e1 : (r.kind == 1) = false := by simp [q5]
 have e2 : (r.kind == 2) = false := by simp [q5]
 have e3 : (r.kind == 3) = false := by simp [q5]
 have e4 : (r.kind == 4) = false := by simp [q5]
 have e5 : (r.kind == 5) = true := by simp [q5]
 by_cases hS : 0 < r.resp.length + r.guards.length + r.ex.length + r.fa.length + r.send.length + r.left.length + r.right.length + r.parent.length
 ·have hS2 : 0 < ((r.resp.length : Int) + (r.guards.length : Int) + (r.ex.length : Int) + (r.fa.length : Int) + (r.send.length : Int) + (r.left.length : Int) + (r.right.length : Int) + (r.parent.length : Int) : Int) := by omega
  have hz := hide (show surplusP topo r = true from by
   simp [surplusP, restP, q5, hS]
   try omega)
  go_enter Tryd.func65, Tryd.ntmps65
  go_wp2_with fail
  go_ret
  exact ⟨by rw [hz.out]; rfl, (Below.refl _ _).alloc (Nat.le_refl _) _⟩
 have hS2 : ¬ 0 < ((r.resp.length : Int) + (r.guards.length : Int) + (r.ex.length : Int) + (r.fa.length : Int) + (r.send.length : Int) + (r.left.length : Int) + (r.right.length : Int) + (r.parent.length : Int) : Int) := by omega
 by_cases h_at_ : r.at_ = 0
 case neg =>
  have hb_at_ : (r.at_ != 0) = true := by simp [h_at_]
  have hz := hide (show surplusP topo r = true from by
   simp [surplusP, restP, q5, hS, h_at_]
   try omega)
  go_enter Tryd.func65, Tryd.ntmps65
  go_wp2_with fail
  go_ret
  exact ⟨by rw [hz.out]; rfl, (Below.refl _ _).alloc (Nat.le_refl _) _⟩
 have hb_at_ : (r.at_ != 0) = false := by simp [h_at_]
 by_cases h_rd : r.rd = -1
 case neg =>
  have hb_rd : (r.rd != -1) = true := by simp [h_rd]
  have hz := hide (show surplusP topo r = true from by
   simp [surplusP, restP, q5, hS, h_at_, h_rd]
   try omega)
  go_enter Tryd.func65, Tryd.ntmps65
  go_wp2_with fail
  go_ret
  exact ⟨by rw [hz.out]; rfl, (Below.refl _ _).alloc (Nat.le_refl _) _⟩
 have hb_rd : (r.rd != -1) = false := by simp [h_rd]
 by_cases h_wr : r.wr = -1
 case neg =>
  have hb_wr : (r.wr != -1) = true := by simp [h_wr]
  have hz := hide (show surplusP topo r = true from by
   simp [surplusP, restP, q5, hS, h_at_, h_rd, h_wr]
   try omega)
  go_enter Tryd.func65, Tryd.ntmps65
  go_wp2_with fail
  go_ret
  exact ⟨by rw [hz.out]; rfl, (Below.refl _ _).alloc (Nat.le_refl _) _⟩
 have hb_wr : (r.wr != -1) = false := by simp [h_wr]
 have hz := hide (show surplusP topo r = false from by
  simp [surplusP, restP, q5, hS, h_at_, h_rd, h_wr]
  try omega)
 go_enter Tryd.func65, Tryd.ntmps65
 go_wp2_with fail
 go_ret
 exact ⟨by rw [hz.out]; rfl, (Below.refl _ _).alloc (Nat.le_refl _) _⟩
theorem surplus_0 {w : World} {cs : List Value} {r : RuleD} {topo : Int} (h : RuleIs w w.heap.size cs r) (hs : r.Small) (q1 : ¬ r.kind = 1) (q2 : ¬ r.kind = 2) (q3 : ¬ r.kind = 3) (q4 : ¬ r.kind = 4) (q5 : ¬ r.kind = 5) : Calls Tryd.prog 65 #[.agg cs.toArray, .int .i64 topo] w (Ret fun v w' => v = .bool (surplusP topo r) ∧ Below w.heap.size w w') := by
 obtain ⟨A1, c1, A2, c2, A3, c3, A4, c4, A5, c5, A6, c6, A7, c7, A8, c8, rfl, -⟩ := h
 obtain ⟨n1, n2, n3, n4, n5, n6, n7, n8⟩ := hs
 have e1 : (r.kind == 1) = false := by simp [q1]
 have e2 : (r.kind == 2) = false := by simp [q2]
 have e3 : (r.kind == 3) = false := by simp [q3]
 have e4 : (r.kind == 4) = false := by simp [q4]
 have e5 : (r.kind == 5) = false := by simp [q5]
 by_cases hS : 0 < r.resp.length + r.guards.length + r.ex.length + r.fa.length + r.send.length + r.left.length + r.right.length + r.parent.length
 ·have hS2 : 0 < ((r.resp.length : Int) + (r.guards.length : Int) + (r.ex.length : Int) + (r.fa.length : Int) + (r.send.length : Int) + (r.left.length : Int) + (r.right.length : Int) + (r.parent.length : Int) : Int) := by omega
  have hz := hide (show surplusP topo r = true from by
   simp [surplusP, restP, q1, q2, q3, q4, q5, hS]
   try omega)
  go_enter Tryd.func65, Tryd.ntmps65
  go_wp2_with fail
  go_ret
  exact ⟨by rw [hz.out]; rfl, (Below.refl _ _).alloc (Nat.le_refl _) _⟩
 have hS2 : ¬ 0 < ((r.resp.length : Int) + (r.guards.length : Int) + (r.ex.length : Int) + (r.fa.length : Int) + (r.send.length : Int) + (r.left.length : Int) + (r.right.length : Int) + (r.parent.length : Int) : Int) := by omega
 by_cases h_pf : r.pf = 0
 case neg =>
  have hb_pf : (r.pf != 0) = true := by simp [h_pf]
  have hz := hide (show surplusP topo r = true from by
   simp [surplusP, restP, q1, q2, q3, q4, q5, hS, h_pf]
   try omega)
  go_enter Tryd.func65, Tryd.ntmps65
  go_wp2_with fail
  go_ret
  exact ⟨by rw [hz.out]; rfl, (Below.refl _ _).alloc (Nat.le_refl _) _⟩
 have hb_pf : (r.pf != 0) = false := by simp [h_pf]
 by_cases h_pt : r.pt = 0
 case neg =>
  have hb_pt : (r.pt != 0) = true := by simp [h_pt]
  have hz := hide (show surplusP topo r = true from by
   simp [surplusP, restP, q1, q2, q3, q4, q5, hS, h_pf, h_pt]
   try omega)
  go_enter Tryd.func65, Tryd.ntmps65
  go_wp2_with fail
  go_ret
  exact ⟨by rw [hz.out]; rfl, (Below.refl _ _).alloc (Nat.le_refl _) _⟩
 have hb_pt : (r.pt != 0) = false := by simp [h_pt]
 by_cases h_at_ : r.at_ = 0
 case neg =>
  have hb_at_ : (r.at_ != 0) = true := by simp [h_at_]
  have hz := hide (show surplusP topo r = true from by
   simp [surplusP, restP, q1, q2, q3, q4, q5, hS, h_pf, h_pt, h_at_]
   try omega)
  go_enter Tryd.func65, Tryd.ntmps65
  go_wp2_with fail
  go_ret
  exact ⟨by rw [hz.out]; rfl, (Below.refl _ _).alloc (Nat.le_refl _) _⟩
 have hb_at_ : (r.at_ != 0) = false := by simp [h_at_]
 by_cases h_dir : r.dir = 0
 case neg =>
  have hb_dir : (r.dir != 0) = true := by simp [h_dir]
  have hz := hide (show surplusP topo r = true from by
   simp [surplusP, restP, q1, q2, q3, q4, q5, hS, h_pf, h_pt, h_at_, h_dir]
   try omega)
  go_enter Tryd.func65, Tryd.ntmps65
  go_wp2_with fail
  go_ret
  exact ⟨by rw [hz.out]; rfl, (Below.refl _ _).alloc (Nat.le_refl _) _⟩
 have hb_dir : (r.dir != 0) = false := by simp [h_dir]
 by_cases h_rd : r.rd = -1
 case neg =>
  have hb_rd : (r.rd != -1) = true := by simp [h_rd]
  have hz := hide (show surplusP topo r = true from by
   simp [surplusP, restP, q1, q2, q3, q4, q5, hS, h_pf, h_pt, h_at_, h_dir, h_rd]
   try omega)
  go_enter Tryd.func65, Tryd.ntmps65
  go_wp2_with fail
  go_ret
  exact ⟨by rw [hz.out]; rfl, (Below.refl _ _).alloc (Nat.le_refl _) _⟩
 have hb_rd : (r.rd != -1) = false := by simp [h_rd]
 by_cases h_wr : r.wr = -1
 case neg =>
  have hb_wr : (r.wr != -1) = true := by simp [h_wr]
  have hz := hide (show surplusP topo r = true from by
   simp [surplusP, restP, q1, q2, q3, q4, q5, hS, h_pf, h_pt, h_at_, h_dir, h_rd, h_wr]
   try omega)
  go_enter Tryd.func65, Tryd.ntmps65
  go_wp2_with fail
  go_ret
  exact ⟨by rw [hz.out]; rfl, (Below.refl _ _).alloc (Nat.le_refl _) _⟩
 have hb_wr : (r.wr != -1) = false := by simp [h_wr]
 have hz := hide (show surplusP topo r = false from by
  simp [surplusP, restP, q1, q2, q3, q4, q5, hS, h_pf, h_pt, h_at_, h_dir, h_rd, h_wr]
  try omega)
 go_enter Tryd.func65, Tryd.ntmps65
 go_wp2_with fail
 go_ret
 exact ⟨by rw [hz.out]; rfl, (Below.refl _ _).alloc (Nat.le_refl _) _⟩
theorem surplus_any {w : World} {cs : List Value} {r : RuleD} {topo : Int} (h : RuleIs w w.heap.size cs r) (hs : r.Small) : Calls Tryd.prog 65 #[.agg cs.toArray, .int .i64 topo] w (Ret fun v w' => v = .bool (surplusP topo r) ∧ Below w.heap.size w w') := by
 by_cases q1 : r.kind = 1
 ·exact surplus_1 h hs q1
 by_cases q2 : r.kind = 2
 ·exact surplus_2 h hs q2
 by_cases q3 : r.kind = 3
 ·exact surplus_3 h hs q3
 by_cases q4 : r.kind = 4
 ·by_cases ht : topo = 4
  ·exact surplus_4 h hs q4 ht
  ·exact surplus_4n h hs q4 ht
 by_cases q5 : r.kind = 5
 ·exact surplus_5 h hs q5
 ·exact surplus_0 h hs q1 q2 q3 q4 q5
end Go.Proofs.YtbjdgepfhhafjaaDoor
namespace Go.Proofs.YtbjdgepfhhafjaaDoor
open Go.RowKit
attribute [-go_sem] loadCellsFrom storeCells
structure RuleX (w : World) (g2 g5 : Nat) (pc rc : Array Value) (p : ProtD) (r : RuleD) : Prop where
 pr : ProtIs w w.heap.size pc.toList p
 ru : RuleIs w w.heap.size rc.toList r
 b2 : Blk w g2 27 pc
 b5 : Blk w g5 51 rc
 tab : SpOK w
theorem RuleX.at {w w' : World} {g2 g5 : Nat} {pc rc : Array Value} {p : ProtD} {r : RuleD} (h : RuleX w g2 g5 pc rc p r) (hb : Below w.heap.size w w') : RuleX w' g2 g5 pc rc p r :=
 ⟨h.pr.keep (fun _ hp => hb.cell hp) hb.size, h.ru.keep (fun _ hp => hb.cell hp) hb.size, h.b2.below hb, h.b5.below hb, h.tab.below hb⟩
theorem blk_load {w : World} {g n : Nat} {t : TypeId} {cs : Array Value} (h : Blk w g t cs) (hn : cs.size = n) : (loadCellsFrom ⟨g, 0, none⟩ 0 n #[]).run Tryd.prog w = .ok cs w := by
 have := run_loadCells_list (P := Tryd.prog) w ⟨g, 0, none⟩ cs.toList (fun j v hv => by
  rw [Addr.add_mid, Nat.zero_add, h.cell]
  simpa using hv)
 subst hn
 simpa [loadCells] using this
theorem RuleX.load2 {w : World} {g2 g5 : Nat} {pc rc : Array Value} {p : ProtD} {r : RuleD} (h : RuleX w g2 g5 pc rc p r) (hn : pc.size = 10) : (loadCellsFrom ⟨g2, 0, none⟩ 0 10 #[]).run Tryd.prog w = .ok pc w := blk_load h.b2 hn
theorem RuleX.load5 {w : World} {g2 g5 : Nat} {pc rc : Array Value} {p : ProtD} {r : RuleD} (h : RuleX w g2 g5 pc rc p r) (hn : rc.size = 18) : (loadCellsFrom ⟨g5, 0, none⟩ 0 18 #[]).run Tryd.prog w = .ok rc w := blk_load h.b5 hn
theorem rule_parts {w : World} {B : Nat} {r : RuleD} {E1 E2 E3 E4 E5 E6 E7 E8 : Option Addr} {f1 f2 f3 f4 f5 f6 f7 f8 : Nat} (h : RuleIs w B [.string r.name, .int .i64 r.kind, .int .i64 r.fr, .int .i64 r.to, .int .i64 r.pf, .int .i64 r.pt, .slice E1 r.resp.length f1, .slice E2 r.guards.length f2, .slice E3 r.ex.length f3, .slice E4 r.fa.length f4, .int .i64 r.rd, .int .i64 r.wr, .slice E5 r.send.length f5, .int .i64 r.at_, .slice E6 r.left.length f6, .slice E7 r.right.length f7, .slice E8 r.parent.length f8, .int .i64 r.dir] r) :
  Sl w B 1 encI E1 r.resp ∧ Sl w B 6 encThr E2 r.guards ∧ Sl w B 1 encI E3 r.ex ∧ Sl w B 1 encI E4 r.fa ∧ Sl w B 1 encI E5 r.send ∧ Sl w B 1 encI E6 r.left ∧ Sl w B 1 encI E7 r.right ∧ Sl w B 1 encI E8 r.parent := by
 obtain ⟨A1, c1, A2, c2, A3, c3, A4, c4, A5, c5, A6, c6, A7, c7, A8, c8, e, h1, h2, h3, h4, h5, h6, h7, h8⟩ := h
 simp only [List.cons.injEq, Value.slice.injEq, true_and, and_true] at e
 obtain ⟨⟨rfl, rfl⟩, ⟨rfl, rfl⟩, ⟨rfl, rfl⟩, ⟨rfl, rfl⟩, ⟨rfl, rfl⟩, ⟨rfl, rfl⟩, ⟨rfl, rfl⟩, ⟨rfl, rfl⟩⟩ := e
 exact ⟨h1, h2, h3, h4, h5, h6, h7, h8⟩
theorem re_head {w : World} {cs : List Value} {p : ProtD} {r : RuleD} {i : Nat} (h : ProtIs w w.heap.size cs p) (hr : p.rules[i]? = some r) (hT : SpOK w) :
  ∃ A1 c1 A2 c2 A3 c3 A4 c4 A5 c5 A6 c6 A7 c7 E1 f1 E2 f2 E3 f3 E4 f4 E5 f5 E6 f6 E7 f7 E8 f8 b off w1 w2, p.rules.length ≤ 9223372036854775807 ∧ p.rules.length ≤ c7 ∧ i < p.rules.length ∧ cs = [.string p.name, .int .i64 p.topo, .slice A1 p.states.length c1, .slice A2 p.messages.length c2, .slice A3 p.values.length c3, .int .i64 p.fault, .slice A4 p.res.length c4, .slice A5 p.initial.length c5, .slice A6 p.leader.length c6, .slice A7 p.rules.length c7] ∧ A7 = some ⟨b, off, none⟩ ∧ w.alloc (.cells #[.string p.name, .int .i64 p.topo, .slice A1 p.states.length c1, .slice A2 p.messages.length c2, .slice A3 p.values.length c3, .int .i64 p.fault, .slice A4 p.res.length c4, .slice A5 p.initial.length c5, .slice A6 p.leader.length c6, .slice A7 p.rules.length c7] 27) = w1 ∧
   (∀ j, w1.cell? ⟨w.heap.size, j, none⟩ = #[.string p.name, .int .i64 p.topo, .slice A1 p.states.length c1, .slice A2 p.messages.length c2, .slice A3 p.values.length c3, .int .i64 p.fault, .slice A4 p.res.length c4, .slice A5 p.initial.length c5, .slice A6 p.leader.length c6, .slice A7 p.rules.length c7][j]?) ∧
   (loadCellsFrom ⟨b, off + i * 18, none⟩ 0 18 #[]).run Tryd.prog w1 = .ok #[.string r.name, .int .i64 r.kind, .int .i64 r.fr, .int .i64 r.to, .int .i64 r.pf, .int .i64 r.pt, .slice E1 r.resp.length f1, .slice E2 r.guards.length f2, .slice E3 r.ex.length f3, .slice E4 r.fa.length f4, .int .i64 r.rd, .int .i64 r.wr, .slice E5 r.send.length f5, .int .i64 r.at_, .slice E6 r.left.length f6, .slice E7 r.right.length f7, .slice E8 r.parent.length f8, .int .i64 r.dir] w1 ∧
   (∀ c : Array Value, c.size = 18 → (storeCells ⟨w1.heap.size, 0, none⟩ [.string r.name, .int .i64 r.kind, .int .i64 r.fr, .int .i64 r.to, .int .i64 r.pf, .int .i64 r.pt, .slice E1 r.resp.length f1, .slice E2 r.guards.length f2, .slice E3 r.ex.length f3, .slice E4 r.fa.length f4, .int .i64 r.rd, .int .i64 r.wr, .slice E5 r.send.length f5, .int .i64 r.at_, .slice E6 r.left.length f6, .slice E7 r.right.length f7, .slice E8 r.parent.length f8, .int .i64 r.dir] 0).run Tryd.prog (w1.alloc (.cells c 51)) = .ok () w2) ∧
   RuleX w2 w.heap.size w1.heap.size #[.string p.name, .int .i64 p.topo, .slice A1 p.states.length c1, .slice A2 p.messages.length c2, .slice A3 p.values.length c3, .int .i64 p.fault, .slice A4 p.res.length c4, .slice A5 p.initial.length c5, .slice A6 p.leader.length c6, .slice A7 p.rules.length c7] #[.string r.name, .int .i64 r.kind, .int .i64 r.fr, .int .i64 r.to, .int .i64 r.pf, .int .i64 r.pt, .slice E1 r.resp.length f1, .slice E2 r.guards.length f2, .slice E3 r.ex.length f3, .slice E4 r.fa.length f4, .int .i64 r.rd, .int .i64 r.wr, .slice E5 r.send.length f5, .int .i64 r.at_, .slice E6 r.left.length f6, .slice E7 r.right.length f7, .slice E8 r.parent.length f8, .int .i64 r.dir] p r ∧
   RowsOf w2 w2.heap.size 18 (RuleIs w2 w2.heap.size) A7 (p.rules.take i) ∧ w2.cell? ⟨w1.heap.size, 0, none⟩ = some (.string r.name) ∧ w1.heap.size < w2.heap.size ∧ Below w.heap.size w w2 ∧ (p.rules.take i).length = i ∧ b < w1.heap.size := by
 obtain ⟨A1, c1, A2, c2, A3, c3, A4, c4, A5, c5, A6, c6, A7, c7, rfl, h1, h2, h3, h4, h5, h6, h7, hcap⟩ := h
 have hil := lt_of_get hr
 have hn7 := h7.1
 obtain ⟨w1, hw1, hb1, hB1, hk1⟩ := box_blk w #[.string p.name, .int .i64 p.topo, .slice A1 p.states.length c1, .slice A2 p.messages.length c2, .slice A3 p.values.length c3, .int .i64 p.fault, .slice A4 p.res.length c4, .slice A5 p.initial.length c5, .slice A6 p.leader.length c6, .slice A7 p.rules.length c7] 27
 have hs1 := hb1.size
 have hP1 : ProtIs w1 w1.heap.size [.string p.name, .int .i64 p.topo, .slice A1 p.states.length c1, .slice A2 p.messages.length c2, .slice A3 p.values.length c3, .int .i64 p.fault, .slice A4 p.res.length c4, .slice A5 p.initial.length c5, .slice A6 p.leader.length c6, .slice A7 p.rules.length c7] p := ProtIs.keep ⟨A1, c1, A2, c2, A3, c3, A4, c4, A5, c5, A6, c6, A7, c7, rfl, h1, h2, h3, h4, h5, h6, h7, hcap⟩ (fun _ hp => hb1.cell hp) hs1
 have hR1 := h7.keep (w' := w1) (B' := w1.heap.size) (R' := RuleIs w1 w1.heap.size) (fun _ hp => hb1.cell hp) (fun _ _ h => h.keep (fun _ hp => hb1.cell hp) hs1) hs1
 obtain ⟨b, off, r', rc, hA, hbk, he, -, hcs, hR⟩ := hR1.at hil
 rw [hr] at he
 have he2 := Option.some.inj he
 subst he2
 have hRH := hide hR
 obtain ⟨E1, f1, E2, f2, E3, f3, E4, f4, E5, f5, E6, f6, E7, f7, E8, f8, rfl, -⟩ := hR
 have hRR : RuleIs w1 w1.heap.size [.string r.name, .int .i64 r.kind, .int .i64 r.fr, .int .i64 r.to, .int .i64 r.pf, .int .i64 r.pt, .slice E1 r.resp.length f1, .slice E2 r.guards.length f2, .slice E3 r.ex.length f3, .slice E4 r.fa.length f4, .int .i64 r.rd, .int .i64 r.wr, .slice E5 r.send.length f5, .int .i64 r.at_, .slice E6 r.left.length f6, .slice E7 r.right.length f7, .slice E8 r.parent.length f8, .int .i64 r.dir] r := hRH.out
 have hlc := run_loadCells_list (P := Tryd.prog) w1 ⟨b, off + i * 18, none⟩ [.string r.name, .int .i64 r.kind, .int .i64 r.fr, .int .i64 r.to, .int .i64 r.pf, .int .i64 r.pt, .slice E1 r.resp.length f1, .slice E2 r.guards.length f2, .slice E3 r.ex.length f3, .slice E4 r.fa.length f4, .int .i64 r.rd, .int .i64 r.wr, .slice E5 r.send.length f5, .int .i64 r.at_, .slice E6 r.left.length f6, .slice E7 r.right.length f7, .slice E8 r.parent.length f8, .int .i64 r.dir] (fun j v hv => by rw [Addr.add_mid]; exact hcs j v hv)
 obtain ⟨w2, hw2, hb2, hB2, hk2⟩ := box_blk w1 #[.string r.name, .int .i64 r.kind, .int .i64 r.fr, .int .i64 r.to, .int .i64 r.pf, .int .i64 r.pt, .slice E1 r.resp.length f1, .slice E2 r.guards.length f2, .slice E3 r.ex.length f3, .slice E4 r.fa.length f4, .int .i64 r.rd, .int .i64 r.wr, .slice E5 r.send.length f5, .int .i64 r.at_, .slice E6 r.left.length f6, .slice E7 r.right.length f7, .slice E8 r.parent.length f8, .int .i64 r.dir] 51
 have hX2 : RuleX w2 w.heap.size w1.heap.size #[.string p.name, .int .i64 p.topo, .slice A1 p.states.length c1, .slice A2 p.messages.length c2, .slice A3 p.values.length c3, .int .i64 p.fault, .slice A4 p.res.length c4, .slice A5 p.initial.length c5, .slice A6 p.leader.length c6, .slice A7 p.rules.length c7] #[.string r.name, .int .i64 r.kind, .int .i64 r.fr, .int .i64 r.to, .int .i64 r.pf, .int .i64 r.pt, .slice E1 r.resp.length f1, .slice E2 r.guards.length f2, .slice E3 r.ex.length f3, .slice E4 r.fa.length f4, .int .i64 r.rd, .int .i64 r.wr, .slice E5 r.send.length f5, .int .i64 r.at_, .slice E6 r.left.length f6, .slice E7 r.right.length f7, .slice E8 r.parent.length f8, .int .i64 r.dir] p r :=
  ⟨hP1.keep (fun _ hp => hb2.cell hp) hb2.size, hRR.keep (fun _ hp => hb2.cell hp) hb2.size, hB1.below hb2, hB2, (hT.below hb1).below hb2⟩
 exact ⟨A1, c1, A2, c2, A3, c3, A4, c4, A5, c5, A6, c6, A7, c7, E1, f1, E2, f2, E3, f3, E4, f4, E5, f5, E6, f6, E7, f7, E8, f8, b, off, w1, w2, hn7, hcap, hil, rfl, hA, hw1, hB1.cell, hlc, fun c hc => by rw [← hw2]; exact run_storeCells_new w1 51 c #[.string r.name, .int .i64 r.kind, .int .i64 r.fr, .int .i64 r.to, .int .i64 r.pf, .int .i64 r.pt, .slice E1 r.resp.length f1, .slice E2 r.guards.length f2, .slice E3 r.ex.length f3, .slice E4 r.fa.length f4, .int .i64 r.rd, .int .i64 r.wr, .slice E5 r.send.length f5, .int .i64 r.at_, .slice E6 r.left.length f6, .slice E7 r.right.length f7, .slice E8 r.parent.length f8, .int .i64 r.dir] (by kernel_rfl) hc (by simp [Value.oneCell']), hX2,
  (hR1.keep (w' := w2) (B' := w2.heap.size) (R' := RuleIs w2 w2.heap.size) (fun _ hp => hb2.cell hp) (fun _ _ h => h.keep (fun _ hp => hb2.cell hp) hb2.size) hb2.size).take i, hX2.b5.cell 0, hX2.b5.lt, hb1.trans (hb2.mono hs1), by rw [List.length_take]; omega, hbk⟩
theorem re_a1 {w : World} {cs : List Value} {p : ProtD} {r : RuleD} {i : Nat} (h : ProtIs w w.heap.size cs p) (hr : p.rules[i]? = some r) (hs : r.Small) (hnm : r.name.size ≤ 9223372036854775807) (hT : SpOK w) (hok : Hid (nameOK r.name = false)) (htk : Hid (((p.rules.take i).any fun x => decide (x.name = r.name)) = true)) :
  Calls Tryd.prog 40 #[.agg cs.toArray, .int .i64 (i : Int)] w (Ret fun v w' => v = .int .i64 (2) ∧ Below w.heap.size w w') := by
 obtain ⟨A1, c1, A2, c2, A3, c3, A4, c4, A5, c5, A6, c6, A7, c7, E1, f1, E2, f2, E3, f3, E4, f4, E5, f5, E6, f6, E7, f7, E8, f8, b, off, w1, w2, hn7, hcap, hil, rfl, rfl, hw1, hc21, hlc, hsc, hX2, hrows2, hcnH, hlt5, hb02, htlH, hbk⟩ := re_head h hr hT
 replace hrows2 := hide hrows2
 replace hcnH := hide hcnH
 replace hb02 := hide hb02
 replace htlH := hide htlH
 have hX2H := hide hX2
 have hc22 := hX2.b2.cell
 have hc52 := hX2.b5.cell
 have hl22 := hX2.load2 rfl
 have hl52 := hX2.load5 rfl
 clear hX2 hT h
 have hcf := hide (containsFunc_any (c := c7) hrows2.out hcnH.out hlt5)
 rw [htlH.out] at hcf
 go_enter Tryd.func40, Tryd.ntmps40
 go_wp2_with (first
  | (go_at_call 62; refine Calls.ret hcf.out ?_; rintro v w3 ⟨rfl, hb3⟩; rw [htk.out]; have hX3 := hX2H.out.at hb3; have hc23 := hX3.b2.cell; have hc53 := hX3.b5.cell; have hl23 := hX3.load2 rfl; have hl53 := hX3.load5 rfl; have hX3H := hide hX3; have hb03 := hide (hb02.out.trans (hb3.mono hb02.out.size)); clear hb3 hX3 hc22 hc52 hl22 hl52)
  | (go_at_call 21; refine Calls.ret (validName_any r.name w3 hnm hX3H.out.tab) ?_; rintro v w4 ⟨rfl, hb4⟩; rw [hok.out]; have hX4 := hX3H.out.at hb4; have hc24 := hX4.b2.cell; have hc54 := hX4.b5.cell; have hl24 := hX4.load2 rfl; have hl54 := hX4.load5 rfl; have hX4H := hide hX4; have hb04 := hide (hb03.out.trans (hb4.mono hb03.out.size)); clear hb4 hX4 hc23 hc53 hl23 hl53))
 go_ret
 exact ⟨rfl, hb04.out⟩
theorem re_a0 {w : World} {cs : List Value} {p : ProtD} {r : RuleD} {i : Nat} (h : ProtIs w w.heap.size cs p) (hr : p.rules[i]? = some r) (hs : r.Small) (hnm : r.name.size ≤ 9223372036854775807) (hT : SpOK w) (hok : Hid (nameOK r.name = false)) (htk : Hid (((p.rules.take i).any fun x => decide (x.name = r.name)) = false)) :
  Calls Tryd.prog 40 #[.agg cs.toArray, .int .i64 (i : Int)] w (Ret fun v w' => v = .int .i64 (2) ∧ Below w.heap.size w w') := by
 obtain ⟨A1, c1, A2, c2, A3, c3, A4, c4, A5, c5, A6, c6, A7, c7, E1, f1, E2, f2, E3, f3, E4, f4, E5, f5, E6, f6, E7, f7, E8, f8, b, off, w1, w2, hn7, hcap, hil, rfl, rfl, hw1, hc21, hlc, hsc, hX2, hrows2, hcnH, hlt5, hb02, htlH, hbk⟩ := re_head h hr hT
 replace hrows2 := hide hrows2
 replace hcnH := hide hcnH
 replace hb02 := hide hb02
 replace htlH := hide htlH
 have hX2H := hide hX2
 have hc22 := hX2.b2.cell
 have hc52 := hX2.b5.cell
 have hl22 := hX2.load2 rfl
 have hl52 := hX2.load5 rfl
 clear hX2 hT h
 have hcf := hide (containsFunc_any (c := c7) hrows2.out hcnH.out hlt5)
 rw [htlH.out] at hcf
 go_enter Tryd.func40, Tryd.ntmps40
 go_wp2_with (first
  | (go_at_call 62; refine Calls.ret hcf.out ?_; rintro v w3 ⟨rfl, hb3⟩; rw [htk.out]; have hX3 := hX2H.out.at hb3; have hc23 := hX3.b2.cell; have hc53 := hX3.b5.cell; have hl23 := hX3.load2 rfl; have hl53 := hX3.load5 rfl; have hX3H := hide hX3; have hb03 := hide (hb02.out.trans (hb3.mono hb02.out.size)); clear hb3 hX3 hc22 hc52 hl22 hl52)
  | (go_at_call 21; refine Calls.ret (validName_any r.name w3 hnm hX3H.out.tab) ?_; rintro v w4 ⟨rfl, hb4⟩; rw [hok.out]; have hX4 := hX3H.out.at hb4; have hc24 := hX4.b2.cell; have hc54 := hX4.b5.cell; have hl24 := hX4.load2 rfl; have hl54 := hX4.load5 rfl; have hX4H := hide hX4; have hb04 := hide (hb03.out.trans (hb4.mono hb03.out.size)); clear hb4 hX4 hc23 hc53 hl23 hl53))
 go_ret
 exact ⟨rfl, hb04.out⟩
theorem re_b {w : World} {cs : List Value} {p : ProtD} {r : RuleD} {i : Nat} (h : ProtIs w w.heap.size cs p) (hr : p.rules[i]? = some r) (hs : r.Small) (hnm : r.name.size ≤ 9223372036854775807) (hT : SpOK w) (hok : Hid (nameOK r.name = true)) (htk : Hid (((p.rules.take i).any fun x => decide (x.name = r.name)) = true)) :
  Calls Tryd.prog 40 #[.agg cs.toArray, .int .i64 (i : Int)] w (Ret fun v w' => v = .int .i64 (2) ∧ Below w.heap.size w w') := by
 obtain ⟨A1, c1, A2, c2, A3, c3, A4, c4, A5, c5, A6, c6, A7, c7, E1, f1, E2, f2, E3, f3, E4, f4, E5, f5, E6, f6, E7, f7, E8, f8, b, off, w1, w2, hn7, hcap, hil, rfl, rfl, hw1, hc21, hlc, hsc, hX2, hrows2, hcnH, hlt5, hb02, htlH, hbk⟩ := re_head h hr hT
 replace hrows2 := hide hrows2
 replace hcnH := hide hcnH
 replace hb02 := hide hb02
 replace htlH := hide htlH
 have hX2H := hide hX2
 have hc22 := hX2.b2.cell
 have hc52 := hX2.b5.cell
 have hl22 := hX2.load2 rfl
 have hl52 := hX2.load5 rfl
 clear hX2 hT h
 have hcf := hide (containsFunc_any (c := c7) hrows2.out hcnH.out hlt5)
 rw [htlH.out] at hcf
 go_enter Tryd.func40, Tryd.ntmps40
 go_wp2_with (first
  | (go_at_call 62; refine Calls.ret hcf.out ?_; rintro v w3 ⟨rfl, hb3⟩; rw [htk.out]; have hX3 := hX2H.out.at hb3; have hc23 := hX3.b2.cell; have hc53 := hX3.b5.cell; have hl23 := hX3.load2 rfl; have hl53 := hX3.load5 rfl; have hX3H := hide hX3; have hb03 := hide (hb02.out.trans (hb3.mono hb02.out.size)); clear hb3 hX3 hc22 hc52 hl22 hl52)
  | (go_at_call 21; refine Calls.ret (validName_any r.name w3 hnm hX3H.out.tab) ?_; rintro v w4 ⟨rfl, hb4⟩; rw [hok.out]; have hX4 := hX3H.out.at hb4; have hc24 := hX4.b2.cell; have hc54 := hX4.b5.cell; have hl24 := hX4.load2 rfl; have hl54 := hX4.load5 rfl; have hX4H := hide hX4; have hb04 := hide (hb03.out.trans (hb4.mono hb03.out.size)); clear hb4 hX4 hc23 hc53 hl23 hl53))
 go_ret
 exact ⟨rfl, hb04.out⟩
theorem re_c {w : World} {cs : List Value} {p : ProtD} {r : RuleD} {i : Nat} (h : ProtIs w w.heap.size cs p) (hr : p.rules[i]? = some r) (hs : r.Small) (hnm : r.name.size ≤ 9223372036854775807) (hT : SpOK w) (hok : Hid (nameOK r.name = true)) (htk : Hid (((p.rules.take i).any fun x => decide (x.name = r.name)) = false)) (hfit : Hid (fitsP r.kind p.topo = false)) :
  Calls Tryd.prog 40 #[.agg cs.toArray, .int .i64 (i : Int)] w (Ret fun v w' => v = .int .i64 (6) ∧ Below w.heap.size w w') := by
 obtain ⟨A1, c1, A2, c2, A3, c3, A4, c4, A5, c5, A6, c6, A7, c7, E1, f1, E2, f2, E3, f3, E4, f4, E5, f5, E6, f6, E7, f7, E8, f8, b, off, w1, w2, hn7, hcap, hil, rfl, rfl, hw1, hc21, hlc, hsc, hX2, hrows2, hcnH, hlt5, hb02, htlH, hbk⟩ := re_head h hr hT
 replace hrows2 := hide hrows2
 replace hcnH := hide hcnH
 replace hb02 := hide hb02
 replace htlH := hide htlH
 have hX2H := hide hX2
 have hc22 := hX2.b2.cell
 have hc52 := hX2.b5.cell
 have hl22 := hX2.load2 rfl
 have hl52 := hX2.load5 rfl
 clear hX2 hT h
 have hcf := hide (containsFunc_any (c := c7) hrows2.out hcnH.out hlt5)
 rw [htlH.out] at hcf
 go_enter Tryd.func40, Tryd.ntmps40
 go_wp2_with (first
  | (go_at_call 62; refine Calls.ret hcf.out ?_; rintro v w3 ⟨rfl, hb3⟩; rw [htk.out]; have hX3 := hX2H.out.at hb3; have hc23 := hX3.b2.cell; have hc53 := hX3.b5.cell; have hl23 := hX3.load2 rfl; have hl53 := hX3.load5 rfl; have hX3H := hide hX3; have hb03 := hide (hb02.out.trans (hb3.mono hb02.out.size)); clear hb3 hX3 hc22 hc52 hl22 hl52)
  | (go_at_call 21; refine Calls.ret (validName_any r.name w3 hnm hX3H.out.tab) ?_; rintro v w4 ⟨rfl, hb4⟩; rw [hok.out]; have hX4 := hX3H.out.at hb4; have hc24 := hX4.b2.cell; have hc54 := hX4.b5.cell; have hl24 := hX4.load2 rfl; have hl54 := hX4.load5 rfl; have hX4H := hide hX4; have hb04 := hide (hb03.out.trans (hb4.mono hb03.out.size)); clear hb4 hX4 hc23 hc53 hl23 hl53)
  | (go_at_call 64; refine (fits_any _ _ _).mono ?_; rintro e w' ⟨rfl, rfl⟩; rw [hfit.out]))
 go_ret
 exact ⟨rfl, hb04.out⟩
theorem re_d {w : World} {cs : List Value} {p : ProtD} {r : RuleD} {i : Nat} (h : ProtIs w w.heap.size cs p) (hr : p.rules[i]? = some r) (hs : r.Small) (hnm : r.name.size ≤ 9223372036854775807) (hT : SpOK w) (hok : Hid (nameOK r.name = true)) (htk : Hid (((p.rules.take i).any fun x => decide (x.name = r.name)) = false)) (hfit : Hid (fitsP r.kind p.topo = true)) (hsur : Hid (surplusP p.topo r = true)) :
  Calls Tryd.prog 40 #[.agg cs.toArray, .int .i64 (i : Int)] w (Ret fun v w' => v = .int .i64 (6) ∧ Below w.heap.size w w') := by
 obtain ⟨A1, c1, A2, c2, A3, c3, A4, c4, A5, c5, A6, c6, A7, c7, E1, f1, E2, f2, E3, f3, E4, f4, E5, f5, E6, f6, E7, f7, E8, f8, b, off, w1, w2, hn7, hcap, hil, rfl, rfl, hw1, hc21, hlc, hsc, hX2, hrows2, hcnH, hlt5, hb02, htlH, hbk⟩ := re_head h hr hT
 replace hrows2 := hide hrows2
 replace hcnH := hide hcnH
 replace hb02 := hide hb02
 replace htlH := hide htlH
 have hX2H := hide hX2
 have hc22 := hX2.b2.cell
 have hc52 := hX2.b5.cell
 have hl22 := hX2.load2 rfl
 have hl52 := hX2.load5 rfl
 clear hX2 hT h
 have hcf := hide (containsFunc_any (c := c7) hrows2.out hcnH.out hlt5)
 rw [htlH.out] at hcf
 go_enter Tryd.func40, Tryd.ntmps40
 go_wp2_with (first
  | (go_at_call 62; refine Calls.ret hcf.out ?_; rintro v w3 ⟨rfl, hb3⟩; rw [htk.out]; have hX3 := hX2H.out.at hb3; have hc23 := hX3.b2.cell; have hc53 := hX3.b5.cell; have hl23 := hX3.load2 rfl; have hl53 := hX3.load5 rfl; have hX3H := hide hX3; have hb03 := hide (hb02.out.trans (hb3.mono hb02.out.size)); clear hb3 hX3 hc22 hc52 hl22 hl52)
  | (go_at_call 21; refine Calls.ret (validName_any r.name w3 hnm hX3H.out.tab) ?_; rintro v w4 ⟨rfl, hb4⟩; rw [hok.out]; have hX4 := hX3H.out.at hb4; have hc24 := hX4.b2.cell; have hc54 := hX4.b5.cell; have hl24 := hX4.load2 rfl; have hl54 := hX4.load5 rfl; have hX4H := hide hX4; have hb04 := hide (hb03.out.trans (hb4.mono hb03.out.size)); clear hb4 hX4 hc23 hc53 hl23 hl53)
  | (go_at_call 64; refine (fits_any _ _ _).mono ?_; rintro e w' ⟨rfl, rfl⟩; rw [hfit.out])
  | (go_at_call 65; refine Calls.ret (surplus_any hX4H.out.ru hs) ?_; rintro v w5 ⟨rfl, hb5⟩; rw [hsur.out]; have hX5 := hX4H.out.at hb5; have hc25 := hX5.b2.cell; have hc55 := hX5.b5.cell; have hl25 := hX5.load2 rfl; have hl55 := hX5.load5 rfl; have hX5H := hide hX5; have hb05 := hide (hb04.out.trans (hb5.mono hb04.out.size)); clear hb5 hX5 hc24 hc54 hl24 hl54))
 go_ret
 exact ⟨rfl, hb05.out⟩
theorem re_e {w : World} {cs : List Value} {p : ProtD} {r : RuleD} {i : Nat} (h : ProtIs w w.heap.size cs p) (hr : p.rules[i]? = some r) (hs : r.Small) (hnm : r.name.size ≤ 9223372036854775807) (hT : SpOK w) (hok : Hid (nameOK r.name = true)) (htk : Hid (((p.rules.take i).any fun x => decide (x.name = r.name)) = false)) (hfit : Hid (fitsP r.kind p.topo = true)) (hsur : Hid (surplusP p.topo r = false)) {e : Int} (hidx : Hid (orE (idxE r.fr (p.states.length : Int)) (idxE r.to (p.states.length : Int)) = e)) (hne : (e != 0) = true) :
  Calls Tryd.prog 40 #[.agg cs.toArray, .int .i64 (i : Int)] w (Ret fun v w' => v = .int .i64 (e) ∧ Below w.heap.size w w') := by
 obtain ⟨A1, c1, A2, c2, A3, c3, A4, c4, A5, c5, A6, c6, A7, c7, E1, f1, E2, f2, E3, f3, E4, f4, E5, f5, E6, f6, E7, f7, E8, f8, b, off, w1, w2, hn7, hcap, hil, rfl, rfl, hw1, hc21, hlc, hsc, hX2, hrows2, hcnH, hlt5, hb02, htlH, hbk⟩ := re_head h hr hT
 replace hrows2 := hide hrows2
 replace hcnH := hide hcnH
 replace hb02 := hide hb02
 replace htlH := hide htlH
 have hX2H := hide hX2
 have hc22 := hX2.b2.cell
 have hc52 := hX2.b5.cell
 have hl22 := hX2.load2 rfl
 have hl52 := hX2.load5 rfl
 clear hX2 hT h
 have hcf := hide (containsFunc_any (c := c7) hrows2.out hcnH.out hlt5)
 rw [htlH.out] at hcf
 go_enter Tryd.func40, Tryd.ntmps40
 go_wp2_with (first
  | (go_at_call 62; refine Calls.ret hcf.out ?_; rintro v w3 ⟨rfl, hb3⟩; rw [htk.out]; have hX3 := hX2H.out.at hb3; have hc23 := hX3.b2.cell; have hc53 := hX3.b5.cell; have hl23 := hX3.load2 rfl; have hl53 := hX3.load5 rfl; have hX3H := hide hX3; have hb03 := hide (hb02.out.trans (hb3.mono hb02.out.size)); clear hb3 hX3 hc22 hc52 hl22 hl52)
  | (go_at_call 21; refine Calls.ret (validName_any r.name w3 hnm hX3H.out.tab) ?_; rintro v w4 ⟨rfl, hb4⟩; rw [hok.out]; have hX4 := hX3H.out.at hb4; have hc24 := hX4.b2.cell; have hc54 := hX4.b5.cell; have hl24 := hX4.load2 rfl; have hl54 := hX4.load5 rfl; have hX4H := hide hX4; have hb04 := hide (hb03.out.trans (hb4.mono hb03.out.size)); clear hb4 hX4 hc23 hc53 hl23 hl53)
  | (go_at_call 64; refine (fits_any _ _ _).mono ?_; rintro e w' ⟨rfl, rfl⟩; rw [hfit.out])
  | (go_at_call 65; refine Calls.ret (surplus_any hX4H.out.ru hs) ?_; rintro v w5 ⟨rfl, hb5⟩; rw [hsur.out]; have hX5 := hX4H.out.at hb5; have hc25 := hX5.b2.cell; have hc55 := hX5.b5.cell; have hl25 := hX5.load2 rfl; have hl55 := hX5.load5 rfl; have hX5H := hide hX5; have hb05 := hide (hb04.out.trans (hb5.mono hb04.out.size)); clear hb5 hX5 hc24 hc54 hl24 hl54))
 have hge6 := hide (show allE id [idxE r.fr (p.states.length : Int), idxE r.to (p.states.length : Int)] = e from by simp [allE, orE_self0]; exact hidx.out)
 have hX5d := hX5H.out.at (drewB w5)
 have hc25d := hX5d.b2.cell
 have hc55d := hX5d.b5.cell
 have hl25d := hX5d.load2 rfl
 have hl55d := hX5d.load5 rfl
 have hX5dH := hide hX5d
 have hb05d := hide (hb05.out.trans ((drewB w5).mono hb05.out.size))
 clear hX5d hc25 hc55 hl25 hl55
 refine Reg.cI [0, 1, 0, 7, 0, 16, 0, 127, 255, 511, 1023] [0, 1, 2, 4, 5, 6, 3, 7, 8, 9, 10] ?_
 refine Reg.wI [0, 1, 2, 4, 5, 6] [3, 7, 8, 9, 10] rfl fun Qf hQf => ?_
 go_wp2_with fail
 first | refine hQf _ _ ⟨rfl, ?_⟩ | refine ⟨rfl, ?_⟩
 try clear hQf
 refine Reg.aI 3 [7, 8, 9, 10] [5] rfl fun Qf hQf => ?_
 simp only [gT, gS, gZ]
 go_wp2_with (go_at_call 44; refine (index_any _ _ _).mono ?_; rintro e w' ⟨rfl, rfl⟩)
 first | refine hQf _ _ ⟨Reg.same_below (Below.refl _ _) [5] rfl, ?_⟩ | refine ⟨Reg.same_below (Below.refl _ _) [5] rfl, ?_⟩
 try clear hQf
 refine Reg.aI 7 [8, 9, 10] [] rfl fun Qf hQf => ?_
 simp only [gT, gS, gZ]
 go_wp2_with (go_at_call 44; refine (index_any _ _ _).mono ?_; rintro e w' ⟨rfl, rfl⟩)
 first | refine hQf _ _ ⟨Reg.nm, ?_⟩ | refine ⟨Reg.nm, ?_⟩
 try clear hQf
 obtain ⟨w6, hw6, hb6, hB6, hk6⟩ := box_blk w5.drew #[.int .i64 (idxE r.fr (p.states.length : Int)), .int .i64 (idxE r.to (p.states.length : Int))] 33
 have hS6 := hide (errs_sl (l := [idxE r.fr (p.states.length : Int), idxE r.to (p.states.length : Int)]) hB6 (by simp))
 have hq6 : Below w5.drew.heap.size w5.drew w6 := hb6
 clear hB6 hk6 hb6
 have hX6 := hX5dH.out.at hq6
 have hc26 := hX6.b2.cell
 have hc56 := hX6.b5.cell
 have hl26 := hX6.load2 rfl
 have hl56 := hX6.load5 rfl
 have hX6H := hide hX6
 have hb06 := hide (hb05d.out.trans (hq6.mono hb05d.out.size))
 clear hq6 hX6 hc25d hc55d hl25d hl55d
 refine Reg.wI [8] [9, 10] rfl fun Qf hQf => ?_
 go_wp2_with fail
 first | refine hQf _ _ ⟨rfl, ?_⟩ | refine ⟨rfl, ?_⟩
 try clear hQf
 refine Reg.aI 9 [10] [] rfl fun Qf hQf => ?_
 simp only [gT, gS, gZ]
 go_wp2_with (go_at_call 24; refine (first_any (l := [idxE r.fr (p.states.length : Int), idxE r.to (p.states.length : Int)]) hS6.out).mono ?_; rintro e w' ⟨rfl, rfl⟩; rw [hge6.out])
 first | refine hQf _ _ ⟨Reg.nm, ?_⟩ | refine ⟨Reg.nm, ?_⟩
 try clear hQf
 refine Reg.wI [10] [] rfl fun Qf hQf => ?_
 go_wp2_with fail
 first | refine hQf _ _ ⟨rfl, ?_⟩ | refine ⟨rfl, ?_⟩
 try clear hQf
 first | refine Reg.restI_end ?_ | skip
 go_wp2_with fail
 go_ret
 exact ⟨rfl, hb06.out⟩
end Go.Proofs.YtbjdgepfhhafjaaDoor
namespace Go.Proofs.YtbjdgepfhhafjaaDoor
open Go.RowKit
attribute [-go_sem] loadCellsFrom storeCells
structure ProtD.Small (p : ProtD) : Prop where
 name : p.name.size ≤ 500
 states : p.states.length ≤ 60
 messages : p.messages.length ≤ 60
 values : p.values.length ≤ 60
 res : p.res.length ≤ 60
 initial : p.initial.length ≤ 60
 leader : p.leader.length ≤ 60
 rules : p.rules.length ≤ 30
 rule : ∀ r ∈ p.rules, r.Small ∧ r.name.size ≤ 500
 names : ∀ s ∈ names3 p, s.size ≤ 500
theorem Sl.takeS {D : Type} {w : World} {B sz : Nat} {enc : D → Nat → Value} {A : Option Addr} {ds : List D} (h : Sl w B sz enc A ds) (n : Nat) : Sl w B sz enc A (ds.take n) :=
 ⟨Nat.le_trans (List.length_take_le' ..) h.1, fun hne => by
  obtain ⟨b, off, e, hb, hc⟩ := h.2 (by rintro rfl; simp at hne)
  refine ⟨b, off, e, hb, fun i d hd => hc i d ?_⟩
  rw [List.getElem?_take] at hd
  split at hd
  ·exact hd
  ·cases hd⟩
theorem own_cap2 {w : World} {base e size n c : Nat} {A : Option Addr} {xs : List Value} (h : w.ownsRow base e size (.slice A n c) n xs) : n ≤ c := by
 rcases h.2 with ⟨e, h0⟩ | ⟨g, cap, cur, e, _, _, h1, _⟩
 ·omega
 ·injection e with e1 e2 e3
  omega
theorem own_sl {w : World} {base n c : Nat} {A : Option Addr} {L : List ByteArray} (h : w.ownsRow base 9 1 (.slice A n c) n (strV L)) (hn : n ≤ 900000) : L.length = n ∧ Sl w w.heap.size 1 encS A L := by
 have hl : L.length = n := by
  have := h.1
  simpa [strV] using this
 refine ⟨hl, by omega, fun hne => ?_⟩
 rcases h.2 with ⟨_, h0⟩ | ⟨g, cap, cur, e, _, hg, _, _, _, _⟩
 ·exact absurd (List.length_eq_zero_iff.1 (by omega)) hne
 ·injection e with e1 e2 e3
  subst e1 e3
  refine ⟨g, 0, rfl, (Array.getElem?_eq_some_iff.1 hg).1, fun k d hd j hj => ?_⟩
  have hk : k < L.length := by
   rcases Nat.lt_or_ge k L.length with h' | h'
   ·exact h'
   ·rw [List.getElem?_eq_none h'] at hd; cases hd
  have e0 : j = 0 := by omega
  subst e0
  have := h.cellAt k (by omega)
  rw [show 0 + k * 1 + 0 = k by omega, this]
  simp [strV, hd]
def nmE (L : List ByteArray) (i : Nat) : Int := whenE (!nameOK (L.getD i .empty) || decide (L.getD i .empty ∈ L.take i)) 2
theorem nm_next {L : List ByteArray} {k : Nat} (hk : k < L.length) (h : allE (nmE L) (List.range k) = 0) {s : ByteArray} (hs : L[k]? = some s) (h1 : nameOK s = true) (h2 : s ∉ L.take k) : allE (nmE L) (List.range (k + 1)) = 0 := by
 have hx : (List.range L.length)[k]? = some k := by rw [List.getElem?_range hk]
 have ht := allE_take (nmE L) hx (by rw [List.take_range, Nat.min_eq_left (by omega)]; exact h)
 rw [List.take_range, Nat.min_eq_left (by omega)] at ht
 rw [ht]
 simp [nmE, hs, h1, h2, whenE]
theorem nm_stop {L : List ByteArray} {k : Nat} (hk : k < L.length) (h : allE (nmE L) (List.range k) = 0) {s : ByteArray} (hs : L[k]? = some s) (h1 : nameOK s = false ∨ s ∈ L.take k) : namesE nameOK L = 2 := by
 have hx : (List.range L.length)[k]? = some k := by rw [List.getElem?_range hk]
 have h2 : nmE L k = 2 := by
  rcases h1 with h1 | h1 <;> simp [nmE, hs, h1, whenE]
 have ht := allE_stop (nmE L) hx (by rw [List.take_range, Nat.min_eq_left (by omega)]; exact h) (by rw [h2]; decide)
 rw [h2] at ht
 exact ht
theorem names_any {w : World} {cs : List Value} {p : ProtD} (h : ProtIs w w.heap.size cs p) (hsm : p.Small) (hT : SpOK w) :
  Calls Tryd.prog 38 #[.agg cs.toArray] w (Ret fun v w' => v = .int .i64 (namesE nameOK (names3 p)) ∧ Below w.heap.size w w') := by
 obtain ⟨A1, c1, A2, c2, A3, c3, A4, c4, A5, c5, A6, c6, A7, c7, rfl, h1, h2, h3, h4, h5, h6, h7, hcap⟩ := h
 have hn1 := hsm.states
 have hn2 := hsm.messages
 have hn3 := hsm.values
 have hnm := hide hsm.names
 obtain ⟨w1, hw1, hb1, hB1, hk1⟩ := box_blk w #[.string p.name, .int .i64 p.topo, .slice A1 p.states.length c1, .slice A2 p.messages.length c2, .slice A3 p.values.length c3, .int .i64 p.fault, .slice A4 p.res.length c4, .slice A5 p.initial.length c5, .slice A6 p.leader.length c6, .slice A7 p.rules.length c7] 27
 have hc1 := hB1.cell
 obtain ⟨w2, hw2, hb2, hB2, hk2⟩ := box_blk w1 #[.slice A1 p.states.length c1, .slice A2 p.messages.length c2, .slice A3 p.values.length c3] 22
 have hs1 := hb1.size
 have hs2 := hb2.size
 have h13 := h1.keep (w' := w2) (B' := w.heap.size) (fun _ hp => (hb2.cell (by omega)).trans (hb1.cell hp)) (Nat.le_refl _)
 have h23 := h2.keep (w' := w2) (B' := w.heap.size) (fun _ hp => (hb2.cell (by omega)).trans (hb1.cell hp)) (Nat.le_refl _)
 have h33 := h3.keep (w' := w2) (B' := w.heap.size) (fun _ hp => (hb2.cell (by omega)).trans (hb1.cell hp)) (Nat.le_refl _)
 have hLL : LL w2 w.heap.size w1.heap.size 0 (fun k => [A1, A2, A3].getD k none) (fun k => [c1, c2, c3].getD k 0) [p.states, p.messages, p.values] := by
  intro k l hl
  match k, hl with
  | 0, hl => obtain rfl := Option.some.inj hl; exact ⟨hB2.cell 0, h13⟩
  | 1, hl => obtain rfl := Option.some.inj hl; exact ⟨hB2.cell 1, h23⟩
  | 2, hl => obtain rfl := Option.some.inj hl; exact ⟨hB2.cell 2, h33⟩
  | k + 3, hl => simp at hl
 have hfl : ([p.states, p.messages, p.values] : List (List ByteArray)).flatten = names3 p := by simp [names3]
 have hlen : (names3 p).length ≤ 180 := by simp only [names3, List.length_append]; omega
 have hcc := concat_any (c := 3) hLL hB2.lt (by omega) (by rw [hfl]; omega) (by simp) (by simp)
 rw [hfl] at hcc
 have hccH := hide hcc
 have hbH := hide (hb1.trans (hb2.mono hs1))
 have hTH := hide ((hT.below hb1).below hb2)
 have hnF := hide (show namesE nameOK (names3 p) = allE (nmE (names3 p)) (List.range (names3 p).length) from rfl)
 clear hcc hLL h13 h23 h33 hfl hb1 hb2 hB1 hk1 hk2 hB2 h1 h2 h3 h4 h5 h6 h7 hsm hT hcap
 generalize names3 p = L at *
 go_enter Tryd.func38, Tryd.ntmps38
 go_wp2_with (go_at_call 59; refine Calls.ret hccH.out ?_; rintro v w3 ⟨hown, hb3⟩; obtain ⟨Av, cv, hv⟩ := slice_of_own hown; subst hv; have hSl := hide (own_sl hown (by omega)).2; have hcv := own_cap2 hown; have hb03 := hide (hbH.out.trans (hb3.mono hbH.out.size)); have hT3 := hide (hTH.out.below hb3); clear hown hb3)
 go_loopw [16] (fun ii wr => ∃ (k : Nat), ii = .int .i64 (k : Int) ∧ k ≤ L.length ∧ Hid (allE (nmE L) (List.range k) = 0) ∧ Hid (Below w3.heap.size w3 wr)) (fun ii _ => L.length - (intOf ii).toNat)
 case atStart => exact ⟨0, rfl, Nat.zero_le _, by show _ = _; rfl, Below.refl _ _⟩
 case round =>
  obtain ⟨k, rfl, hk, hE, hbr⟩ := hrel
  by_cases hlt : k < L.length
  ·obtain ⟨b, off, s, hA, hbk, hsk, hc⟩ := hSl.out.at hlt
   have d0 := hc 0 (by omega)
   simp only [Nat.add_zero, Nat.mul_one, encS] at d0
   have d1 := (hbr.out.cell (p := ⟨b, off + k, none⟩) hbk).trans d0
   have hssz := hnm.out s (List.mem_of_getElem? hsk)
   have hskH := hide hsk
   subst hA
   clear hc d0 hsk
   have hbsum : ∀ wx, Below wr.heap.size wr wx → Hid (Below w3.heap.size w3 wx) := fun wx hx => hide (hbr.out.trans (hx.mono hbr.out.size))
   have hTr := hide (hT3.out.below hbr.out)
   cases hok : nameOK s with
   | false =>
    have hokH := hide hok
    clear hok
    go_wp2_with (go_at_call 21; refine Calls.ret (validName_any s _ (by omega) hTr.out) ?_; rintro v wx ⟨rfl, hbx⟩; rw [hokH.out])
    go_ret
    refine ⟨?_, hb03.out.trans ((hbsum _ hbx).out.mono hb03.out.size)⟩
    rw [nm_stop hlt hE.out hskH.out (.inl hokH.out)]
    rfl
   | true =>
    have hokH := hide hok
    clear hok
    have htl : (L.take k).length = k := by rw [List.length_take]; omega
    have htlH := hide htl
    clear htl
    have hcc2 : ∀ wx, Below wr.heap.size wr wx → Hid (Calls Tryd.prog 60 #[.slice (some ⟨b, off, none⟩) k cv, .string s] wx fun r w' => r = .returned (.bool (decide (s ∈ L.take k))) ∧ wx = w') := by
     intro wx hx
     have h1 := (hSl.out.keep (w' := wx) (B' := w3.heap.size) (fun _ hp => (hbsum wx hx).out.cell hp) (Nat.le_refl _)).takeS k
     have h2 := containsS_any (c := cv) (x := s) h1
     rw [htlH.out] at h2
     exact h2
    have hcc2H := hide hcc2
    clear hcc2
    by_cases hm : s ∈ L.take k
    ·have hmH := hide hm
     have hmD : decide (s ∈ L.take k) = true := decide_eq_true hm
     have hmDH := hide hmD
     clear hm hmD
     go_wp2_with (first
      | (go_at_call 21; refine Calls.ret (validName_any s _ (by omega) hTr.out) ?_; rintro v wx ⟨rfl, hbx⟩; rw [hokH.out]; have hbxH := hide hbx; clear hbx)
      | (go_at_call 60; refine (hcc2H.out _ hbxH.out).out.mono ?_; rintro r w' ⟨rfl, rfl⟩; rw [hmDH.out]))
     go_ret
     refine ⟨?_, hb03.out.trans ((hbsum _ hbxH.out).out.mono hb03.out.size)⟩
     rw [nm_stop hlt hE.out hskH.out (.inr hmH.out)]
     rfl
    ·have hmH := hide hm
     have hmD : decide (s ∈ L.take k) = false := decide_eq_false hm
     have hmDH := hide hmD
     clear hm hmD
     go_wp2_with (first
      | (go_at_call 21; refine Calls.ret (validName_any s _ (by omega) hTr.out) ?_; rintro v wx ⟨rfl, hbx⟩; rw [hokH.out]; have hbxH := hide hbx; clear hbx)
      | (go_at_call 60; refine (hcc2H.out _ hbxH.out).out.mono ?_; rintro r w' ⟨rfl, rfl⟩; rw [hmDH.out]))
     exact ⟨⟨k + 1, by go_num, by omega, nm_next hlt hE.out hskH.out hokH.out hmH.out, hbsum _ hbxH.out⟩, by simp [intOf]; omega⟩
  ·have e : k = L.length := by omega
   have hE2 := hE.out
   rw [e, ← hnF.out] at hE2
   have hE3 := hide hE2
   clear hE2 e hE
   go_wp2_with fail
   go_ret
   exact ⟨by rw [hE3.out]; rfl, hb03.out.trans (hbr.out.mono hb03.out.size)⟩
end Go.Proofs.YtbjdgepfhhafjaaDoor
namespace Go.Proofs.YtbjdgepfhhafjaaDoor
open Go.RowKit
attribute [-go_sem] loadCellsFrom storeCells
theorem ProtIs.rules_at {w : World} {B : Nat} {cs : List Value} {p : ProtD} (h : ProtIs w B cs p) : cs.toArray.size = 10 ∧ ∃ A c, cs.toArray[9]? = some (.slice A p.rules.length c) ∧ RowsOf w B 18 (RuleIs w B) A p.rules ∧ p.rules.length ≤ c := by
 obtain ⟨A1, c1, A2, c2, A3, c3, A4, c4, A5, c5, A6, c6, A7, c7, rfl, h1, h2, h3, h4, h5, h6, h7, hcap⟩ := h
 exact ⟨rfl, A7, c7, rfl, h7, hcap⟩
structure RuleC (w : World) (B : Nat) (rc : Array Value) (r : RuleD) : Prop where
 size : rc.size = 18
 one : rc.all (·.oneCell') = true
 is : RuleIs w B rc.toList r
theorem RuleIs.c {w : World} {B : Nat} {cs : List Value} {r : RuleD} (h : RuleIs w B cs r) : RuleC w B cs.toArray r := by
 refine ⟨?_, ?_, by simpa using h⟩ <;> obtain ⟨A1, c1, A2, c2, A3, c3, A4, c4, A5, c5, A6, c6, A7, c7, A8, c8, rfl, _⟩ := h
 ·rfl
 ·simp [Value.oneCell']
theorem RuleC.guards {w : World} {B : Nat} {rc : Array Value} {r : RuleD} (h : RuleC w B rc r) : ∃ A c, rc[7]? = some (.slice A r.guards.length c) ∧ Sl w B 6 encThr A r.guards := by
 obtain ⟨A1, c1, A2, c2, A3, c3, A4, c4, A5, c5, A6, c6, A7, c7, A8, c8, e, h1, h2, h3, h4, h5, h6, h7, h8⟩ := h.is
 refine ⟨A2, c2, ?_, h2⟩
 rw [← Array.getElem?_toList, e]
 rfl
theorem rows_rule {w : World} {B : Nat} {A : Option Addr} {l : List RuleD} (h : RowsOf w B 18 (RuleIs w B) A l) {i : Nat} {r : RuleD} (hr : l[i]? = some r) :
  ∃ b off rc, A = some ⟨b, off, none⟩ ∧ b < B ∧ RuleC w B rc r ∧ (∀ j v, rc[j]? = some v → w.cell? ⟨b, off + i * 18 + j, none⟩ = some v) ∧ ((loadCellsFrom ⟨b, off + i * 18, none⟩ 0 18 #[]).run Tryd.prog w = .ok rc w) := by
 obtain ⟨b, off, r', rc, hA, hbk, he, hsz, hcs, hR⟩ := h.at (lt_of_get hr)
 rw [hr] at he
 have he2 := Option.some.inj he
 subst he2
 have hc := hR.c
 have hcs2 : ∀ j v, rc.toArray[j]? = some v → w.cell? ⟨b, off + i * 18 + j, none⟩ = some v := fun j v hv => hcs j v (by simpa using hv)
 refine ⟨b, off, rc.toArray, hA, hbk, hc, hcs2, ?_⟩
 have := run_loadCells_list (P := Tryd.prog) w ⟨b, off + i * 18, none⟩ rc (fun j v hv => by rw [Addr.add_mid]; exact hcs j v hv)
 rw [hsz] at this
 simpa [loadCells] using this
theorem store_new (w : World) (t n : Nat) (hi : (Tryd.prog.info? t).map (·.size) = some n) {rc : Array Value} (hs : rc.size = n) (h1 : rc.all (·.oneCell') = true) :
  ∀ c : Array Value, c.size = n → (storeCells ⟨w.heap.size, 0, none⟩ rc.toList 0).run Tryd.prog (w.alloc (.cells c t)) = .ok () (w.alloc (.cells rc t)) := fun c hc =>
 run_storeCells_new w t c rc (by rw [hi, hs]) (by rw [hc, hs]) h1
theorem own_belowB {w w' : World} {base e size n : Nat} {v : Value} {xs : List Value} (h : w.ownsRow base e size v n xs) (hb : Below w.heap.size w w') : w'.ownsRow base e size v n xs := (Kept.of_below hb fun _ => False).ownsRow h (fun _ _ => id)
theorem own_monoB {w : World} {base base' e size n : Nat} {v : Value} {xs : List Value} (h : w.ownsRow base e size v n xs) (hb : base' ≤ base) : w.ownsRow base' e size v n xs := by
 refine ⟨h.1, ?_⟩
 rcases h.2 with h1 | ⟨g, cap, cur, e, h2, h3⟩
 ·exact .inl h1
 ·exact .inr ⟨g, cap, cur, e, by omega, h3⟩
theorem info113 : (Tryd.prog.info? 113).map (fun i => (i.zero, i.size, i.bytes)) = some (some (aggThr ⟨0, 0, ⟨0, 0, 0, 0⟩⟩), 6, 48) := by kernel_rfl
theorem rowT : RowTy Tryd.prog 49 113 6 := rowTy_of Tryd.underlying49 info113 rfl (by omega) (by omega)
def cellsT (g : Thr) : List Value := [.int .i64 g.msg, .int .i64 g.coef, .int .i64 g.bound.c, .int .i64 g.bound.n, .int .i64 g.bound.t, .int .i64 g.bound.f]
def thrV (L : List Thr) : List Value := L.flatMap cellsT
theorem thrV_len (L : List Thr) : (thrV L).length = L.length * 6 := by
 induction L with
 | nil => rfl
 | cons x L ih =>
  have : thrV (x :: L) = cellsT x ++ thrV L := rfl
  rw [this, List.length_append, ih, List.length_cons]
  show 6 + _ = _
  omega
theorem thrV_add (L : List Thr) (g : Thr) : thrV (L ++ [g]) = thrV L ++ cellsT g := by simp [thrV]
theorem thrV_at : ∀ (L : List Thr) (k : Nat) (d : Thr), L[k]? = some d → ∀ j, j < 6 → (thrV L)[k * 6 + j]? = some (encThr d j)
 | [], k, d, h, _, _ => by simp at h
 | x :: L, 0, d, h, j, hj => by
  obtain rfl : x = d := by simpa using h
  have : thrV (x :: L) = cellsT x ++ thrV L := rfl
  rw [this, Nat.zero_mul, Nat.zero_add, List.getElem?_append_left (by show j < 6; exact hj)]
  match j, hj with
  | 0, _ => rfl
  | 1, _ => rfl
  | 2, _ => rfl
  | 3, _ => rfl
  | 4, _ => rfl
  | 5, _ => rfl
 | x :: L, k + 1, d, h, j, hj => by
  have : thrV (x :: L) = cellsT x ++ thrV L := rfl
  rw [this, List.getElem?_append_right (by show 6 ≤ _; omega), show (k + 1) * 6 + j - (cellsT x).length = k * 6 + j from by show (k + 1) * 6 + j - 6 = _; omega]
  exact thrV_at L k d (by simpa using h) j hj
theorem own_slT {w : World} {base n c : Nat} {A : Option Addr} {L : List Thr} (h : w.ownsRow base 113 6 (.slice A n c) n (thrV L)) (hn : n ≤ 900000) : L.length = n ∧ Sl w w.heap.size 6 encThr A L := by
 have hl : L.length = n := by
  have := h.1
  rw [thrV_len] at this
  omega
 refine ⟨hl, by omega, fun hne => ?_⟩
 rcases h.2 with ⟨_, h0⟩ | ⟨g, cap, cur, e, _, hg, _, _, _, _⟩
 ·exact absurd (List.length_eq_zero_iff.1 (by omega)) hne
 ·injection e with e1 e2 e3
  subst e1 e3
  refine ⟨g, 0, rfl, (Array.getElem?_eq_some_iff.1 hg).1, fun k d hd j hj => ?_⟩
  have hk := lt_of_get hd
  rw [show 0 + k * 6 + j = k * 6 + j by omega, h.cellAt (k * 6 + j) (by omega)]
  exact thrV_at L k d hd j hj
theorem addT_len (s : List Thr) (g : Thr) : (addT s g).length ≤ s.length + 1 := by
 unfold addT
 split <;> simp
theorem fold_len : ∀ (l s : List Thr), (l.foldl addT s).length ≤ s.length + l.length
 | [], s => by simp
 | g :: l, s => by
  have h1 := fold_len l (addT s g)
  have h2 := addT_len s g
  simp only [List.foldl_cons, List.length_cons]
  omega
theorem fold_take {l : List Thr} {k : Nat} {g : Thr} (h : l[k]? = some g) (s : List Thr) : (l.take (k + 1)).foldl addT s = addT ((l.take k).foldl addT s) g := by
 rw [show l.take (k + 1) = l.take k ++ [g] by rw [List.take_add_one, h]; rfl, List.foldl_append]
 rfl
theorem thrs_take {l : List RuleD} {i : Nat} {r : RuleD} (h : l[i]? = some r) : thrsL (l.take (i + 1)) = r.guards.foldl addT (thrsL (l.take i)) := by
 unfold thrsL
 rw [show l.take (i + 1) = l.take i ++ [r] by rw [List.take_add_one, h]; rfl, List.flatMap_append, List.foldl_append]
 simp
theorem flat_len60 : ∀ (l : List RuleD), (∀ r ∈ l, r.guards.length ≤ 60) → (l.flatMap RuleD.guards).length ≤ 60 * l.length
 | [], _ => by simp
 | r :: l, h => by
  have h1 := flat_len60 l (fun x hx => h x (by simp [hx]))
  have h2 := h r (by simp)
  rw [List.flatMap_cons, List.length_append, List.length_cons]
  omega
theorem thrs_len (l : List RuleD) (h : ∀ r ∈ l, r.guards.length ≤ 60) : (thrsL l).length ≤ 60 * l.length := by
 have h1 := fold_len (l.flatMap RuleD.guards) []
 have h2 := flat_len60 l h
 unfold thrsL
 rw [List.length_nil] at h1
 omega
theorem thresholds_any {w : World} {cs : List Value} {p : ProtD} (h : ProtIs w w.heap.size cs p) (hsm : p.Small) :
  Calls Tryd.prog 41 #[.agg cs.toArray] w (Ret fun v w' => w'.ownsRow w.heap.size 113 6 v (thrsL p.rules).length (thrV (thrsL p.rules)) ∧ Below w.heap.size w w') := by
 have hg60 := hide (show ∀ r ∈ p.rules, r.guards.length ≤ 60 from fun r hr => (hsm.rule r hr).1.2.1)
 have hr30 := hsm.rules
 obtain ⟨hpsz, A7, c7, hp9, hrows, hcap⟩ := h.rules_at
 generalize hpc : cs.toArray = pc at *
 clear hpc h
 generalize hrl : p.rules = rs at *
 clear hrl hsm
 obtain ⟨w1, hw1, hb1, hB1, hk1⟩ := box_blk w pc 27
 have hs1 := hb1.size
 have hc9 : w1.cell? ⟨w.heap.size, 9, none⟩ = some (.slice A7 rs.length c7) := by rw [hB1.cell, hp9]
 have hR1 := hide (hrows.keep (w' := w1) (B' := w1.heap.size) (R' := RuleIs w1 w1.heap.size) (fun _ hp => hb1.cell hp) (fun _ _ h => h.keep (fun _ hp => hb1.cell hp) hs1) hs1)
 have hbH := hide hb1
 have hlt1 := hB1.lt
 clear hrows hb1 hk1 hB1 hp9
 go_enter Tryd.func41, Tryd.ntmps41
 go_wp2_with fail
 go_loopw [3, 11] (fun vv ii wr => ∃ (i n : Nat), ii = .int .i64 (i : Int) ∧ i ≤ rs.length ∧ Hid (wr.ownsRow w1.heap.size 113 6 vv n (thrV (thrsL (rs.take i)))) ∧ Hid (n = (thrsL (rs.take i)).length) ∧ Hid (Below w1.heap.size w1 wr)) (fun _ ii _ => rs.length - (intOf ii).toNat)
 case atStart => exact ⟨0, 0, rfl, Nat.zero_le _, World.ownsRow_nil _ _ _ _, by show _ = _; rfl, Below.refl _ _⟩
 case round =>
  obtain ⟨i, n, rfl, hi, hO, hn, hB⟩ := hrel
  by_cases hlt : i < rs.length
  ·obtain ⟨r, hr⟩ : ∃ r, rs[i]? = some r := ⟨_, List.getElem?_eq_getElem hlt⟩
   obtain ⟨b, off, rc, hA, hbk, hC, hcs, hlc⟩ := rows_rule (hR1.out.keep (w' := wr) (B' := w1.heap.size) (R' := RuleIs wr w1.heap.size) (fun _ hp => hB.out.cell hp) (fun _ _ h => h.keep (fun _ hp => hB.out.cell hp) (Nat.le_refl _)) (Nat.le_refl _)) hr
   obtain ⟨w2, hw2, hb2, hB2, hk2⟩ := box_blk wr rc 51
   have hsc := store_new wr 51 18 (by kernel_rfl) hC.size hC.one
   rw [hw2] at hsc
   obtain ⟨Eg, fg, hc7, hSl⟩ := hC.guards
   have hrH := hide hr
   have hCH := hide hC
   have hc57 : w2.cell? ⟨wr.heap.size, 7, none⟩ = some (.slice Eg r.guards.length fg) := by rw [hB2.cell, hc7]
   have hgl := hg60.out r (List.mem_of_getElem? hr)
   have hO2 := hide (own_belowB hO.out hb2)
   have hrsz := hC.size
   have hS2 := hide (hSl.keep (w' := w1) (B' := w1.heap.size) (fun _ hp => (hB.out.cell hp).symm) (Nat.le_refl _))
   have hB2H := hide (hB.out.trans (hb2.mono hB.out.size))
   have hthr := hide (thrs_take hr)
   have hnl := hide (thrs_len (rs.take i) (fun r hr => hg60.out r (List.mem_of_mem_take hr)))
   have hn60 : n ≤ 1800 := by
    have h1 := hnl.out
    rw [hn.out]
    rw [List.length_take] at h1
    omega
   subst hA
   clear hcs hC hk2 hB2 hr hc7 hO hSl hb2
   go_wp2_with fail
   go_loopw [3, 18] (fun vv jj wr => ∃ (j n : Nat), jj = .int .i64 (j : Int) ∧ j ≤ r.guards.length ∧ n ≤ 1800 + j ∧ Hid (wr.ownsRow w1.heap.size 113 6 vv n (thrV ((r.guards.take j).foldl addT (thrsL (rs.take i))))) ∧ Hid (n = ((r.guards.take j).foldl addT (thrsL (rs.take i))).length) ∧ Hid (Below w1.heap.size w1 wr)) (fun _ jj _ => r.guards.length - (intOf jj).toNat)
   case atStart => exact ⟨0, n, rfl, Nat.zero_le _, by omega, by show World.ownsRow _ _ _ _ _ _ _; simpa using hO2.out, by show _ = _; simpa using hn.out, hB2H.out⟩
   case round =>
    obtain ⟨j, m, rfl, hj, hm, hO, hmn, hBj⟩ := hrel
    by_cases hltj : j < r.guards.length
    ·obtain ⟨b2, off2, g, hA2, hbk2, hg, hcg⟩ := (hS2.out.keep (w' := wr) (B' := w1.heap.size) (fun _ hp => hBj.out.cell hp) (Nat.le_refl _)).at hltj
     have hlcg : (loadCellsFrom ⟨b2, off2 + j * 6, none⟩ 0 6 #[]).run Tryd.prog wr = .ok #[.int .i64 g.msg, .int .i64 g.coef, .int .i64 g.bound.c, .int .i64 g.bound.n, .int .i64 g.bound.t, .int .i64 g.bound.f] wr := by
      have := run_loadCells_list (P := Tryd.prog) wr ⟨b2, off2 + j * 6, none⟩ (cellsT g) (fun k v hv => by
       rw [Addr.add_mid]
       have hk := lt_of_get hv
       rw [hcg k hk]
       match k, hk, hv with
       | 0, _, hv => exact congrArg some (Option.some.inj hv)
       | 1, _, hv => exact congrArg some (Option.some.inj hv)
       | 2, _, hv => exact congrArg some (Option.some.inj hv)
       | 3, _, hv => exact congrArg some (Option.some.inj hv)
       | 4, _, hv => exact congrArg some (Option.some.inj hv)
       | 5, _, hv => exact congrArg some (Option.some.inj hv))
      simpa [loadCells, cellsT] using this
     have hft := hide (fold_take hg (thrsL (rs.take i)))
     have haggH := hide (show aggThr g = .agg #[.int .i64 g.msg, .int .i64 g.coef, .int .i64 g.bound.c, .int .i64 g.bound.n, .int .i64 g.bound.t, .int .i64 g.bound.f] from rfl)
     obtain ⟨w3, hw3, hb3, hB3, hk3⟩ := box_blk wr #[.int .i64 g.msg, .int .i64 g.coef, .int .i64 g.bound.c, .int .i64 g.bound.n, .int .i64 g.bound.t, .int .i64 g.bound.f] 113
     have hsc3 : ∀ c : Array Value, c.size = 6 → (storeCells ⟨wr.heap.size, 0, none⟩ [.int .i64 g.msg, .int .i64 g.coef, .int .i64 g.bound.c, .int .i64 g.bound.n, .int .i64 g.bound.t, .int .i64 g.bound.f] 0).run Tryd.prog (wr.alloc (.cells c 113)) = .ok () w3 := fun c hc => by rw [← hw3]; exact store_new wr 113 6 (by kernel_rfl) (rc := #[.int .i64 g.msg, .int .i64 g.coef, .int .i64 g.bound.c, .int .i64 g.bound.n, .int .i64 g.bound.t, .int .i64 g.bound.f]) rfl (by simp [Value.oneCell']) c hc
     have hl3 : (loadCellsFrom ⟨wr.heap.size, 0, none⟩ 0 6 #[]).run Tryd.prog w3 = .ok #[.int .i64 g.msg, .int .i64 g.coef, .int .i64 g.bound.c, .int .i64 g.bound.n, .int .i64 g.bound.t, .int .i64 g.bound.f] w3 := blk_load hB3 rfl
     have hO3 := own_belowB hO.out hb3
     obtain ⟨Av, cv, hv⟩ := slice_of_own hO.out
     subst hv
     have hSv := (own_slT hO3 (by omega)).2
     have hlen : ((r.guards.take j).foldl addT (thrsL (rs.take i))).length = m := hmn.out.symm
     have hct := hide (containsT_any (c := cv) (x := g) hSv (Nat.le_refl _))
     rw [hlen, haggH.out] at hct
     have hB3H := hide (hBj.out.trans (hb3.mono hBj.out.size))
     have hgH := hide hg
     have hB3K := hide hB3
     have hO3H := hide hO3
     subst hA2
     clear hcg hk3 hB3 hb3 hg hSv hlen hO hO3
     generalize ((r.guards.take j).foldl addT (thrsL (rs.take i))) = L at *
     cases hmem : decide (g ∈ L)
     ·have hmemH := hide hmem
      clear hmem
      have hadd := hide (show addT L g = L ++ [g] from if_neg (of_decide_eq_false hmemH.out))
      go_wp2_with (first
       | (go_at_call 69; refine Calls.ret hct.out ?_; rintro v w4 ⟨rfl, hb4⟩; rw [hmemH.out]; have hl4 := blk_load (n := 6) (hB3K.out.below hb4) rfl; have hO4 := hide (own_belowB hO3H.out hb4); have hB4H := hide (hB3H.out.trans (hb4.mono hB3H.out.size)); clear hb4)
       | (at_builtin; refine wpList_app_new rowT rfl _ _ rfl w1.heap.size _ m _ rfl hO4.out (cellsT g) _ rfl rfl (by simp [cellsT, Value.oneCell']) (by omega) (by have := hB4H.out.size; have := hB2H.out.size; omega) ?_; intro g5 cap5 w5 hown5 hkept5 hmv5 hlt5))
      have hBw := hide (hB4H.out.trans (hkept5.below hB4H.out.size fun b' hb' e => by have := (hO4.out.lt b' e).1; omega))
      clear hkept5 hmv5 hlt5
      exact ⟨⟨j + 1, m + 1, by go_num, by omega, by omega, by show World.ownsRow _ _ _ _ _ _ _; rw [hft.out, hadd.out, thrV_add]; exact hown5, by show _ = _; rw [hft.out, hadd.out, List.length_append, hmn.out]; rfl, hBw.out⟩, by simp [intOf]; omega⟩
     ·have hmemH := hide hmem
      clear hmem
      have hadd := hide (show addT L g = L from if_pos (of_decide_eq_true hmemH.out))
      go_wp2_with (go_at_call 69; refine Calls.ret hct.out ?_; rintro v w4 ⟨rfl, hb4⟩; rw [hmemH.out]; have hO4 := hide (own_belowB hO3H.out hb4); have hB4H := hide (hB3H.out.trans (hb4.mono hB3H.out.size)); clear hb4)
      exact ⟨⟨j + 1, m, by go_num, by omega, by omega, by show World.ownsRow _ _ _ _ _ _ _; rw [hft.out, hadd.out]; exact hO4.out, by show _ = _; rw [hft.out, hadd.out, hmn.out], hB4H.out⟩, by simp [intOf]; omega⟩
    ·have e : j = r.guards.length := by omega
     have hO2 := hO.out
     have hn2 := hmn.out
     rw [e, List.take_length, ← hthr.out] at hO2 hn2
     have hO3 := hide hO2
     have hn3 := hide hn2
     clear hO2 hn2 e hO hmn
     go_wp2_with fail
     exact ⟨⟨i + 1, m, by go_num, by omega, hO3.out, hn3.out, hBj.out⟩, by simp [intOf]; omega⟩
  ·have e : i = rs.length := by omega
   have hO2 := hO.out
   have hn2 := hn.out
   rw [e, List.take_length] at hO2 hn2
   rw [hn2] at hO2
   have hO3 := hide (own_monoB hO2 hs1)
   clear hO2 hn2 e hO hn
   go_wp2_with fail
   go_ret
   exact ⟨hO3.out, hbH.out.trans (hB.out.mono hs1)⟩
end Go.Proofs.YtbjdgepfhhafjaaDoor
