/-
  Part XI of a proof.
-/
import Derived.Test.YtpmceapjnnkhjaaGreatDoorPA
import Derived.Test.YtpmceapjnnkhjaaGreatDoorPI
import Derived.Test.YtpmceapjnnkhjaaGreatDoorXG
set_option maxHeartbeats 16000000
set_option maxRecDepth 100000
set_option linter.unusedVariables false
set_option linter.unusedSimpArgs false
namespace Go.Proofs.YtpmceapjnnkhjaaGreatDoor
open Go.RowKit
set_option maxHeartbeats 16000000
set_option maxRecDepth 100000
def WA.both (a b : WA) : Bool := a.ok && b.ok && decide (b.letters = a.letters)
theorem examine_any {w : World} {vA vB : Value} {a b : WA} {g c : Nat} (hA : IsWA w w.heap.size vA a) (hB : IsWA w w.heap.size vB b) (hl : Blk w g 87 #[.iface 48 vA, .iface 48 vB]) :
  Calls Tryz.prog 23 #[.slice (some ⟨g, 0, none⟩) 2 c] w (Ret fun r w' => r = .int .i64 (errno (a.both b)) ∧ Below w.heap.size w w') := by
 have hAH := hide hA
 have hBH := hide hB
 have hlH := hide hl
 obtain ⟨A1, c1, A2, c2, A3, c3, rfl, -⟩ := hA
 obtain ⟨B1, d1, B2, d2, B3, d3, rfl, -⟩ := hB
 obtain ⟨la, hla⟩ : ∃ la, la = a.letters := ⟨_, rfl⟩
 obtain ⟨lb, hlb⟩ : ∃ lb, lb = b.letters := ⟨_, rfl⟩
 have hlaH := hide hla
 have hlbH := hide hlb
 clear hl hla hlb
 go_enter Tryz.func23, Tryz.ntmps23
 go_wp2_with fail
 go_loopw [14] (fun ii wr => ∃ k : Nat, ii = .int .i64 (k : Int) ∧ k ≤ 2 ∧ Hid (Below w.heap.size w wr) ∧ Hid (0 < k → a.ok = true) ∧ Hid (1 < k → b.ok = true)) (fun ii _ => 2 - (intOf ii).toNat)
 case atStart => exact ⟨0, rfl, by omega, Below.refl _ _, fun h => by omega, fun h => by omega⟩
 case round =>
  obtain ⟨k, rfl, hk, hb, ha1, hb1⟩ := hrel
  have hlr := hlH.out.below hb.out
  have hc := hlr.cell
  have hAr := hAH.out.keep (w' := wr) (fun p hp => hb.out.cell hp) hb.out.size
  have hBr := hBH.out.keep (w' := wr) (fun p hp => hb.out.cell hp) hb.out.size
  rcases (show k = 0 ∨ k = 1 ∨ k = 2 by omega) with rfl | rfl | rfl
  ·have hv := validateI_any hAr
   have hc0 : wr.cell? ⟨g, 0, none⟩ = some (.iface 48 (.agg #[.int .i64 a.letters, .int .i64 a.states, .slice A1 a.start.length c1, .slice A2 a.accept.length c2, .slice A3 a.edges.length c3])) := hc 0
   clear hc hAr hBr hlr
   cases hok : a.ok with
   | false =>
    rw [hok, show errno false = 1 from rfl] at hv
    have hR : Hid (errno (a.both b) = 1) := by show _ = _; unfold WA.both; rw [hok]; rfl
    clear hok
    go_wp2_with fail
    refine Calls.ret hv ?_
    rintro r w2 ⟨rfl, hb2⟩
    have hb02 := hide (hb.out.trans (hb2.mono hb.out.size))
    clear hv hb2
    go_wp2_with fail
    go_ret
    exact ⟨by rw [hR.out]; first | done | rfl, hb02.out⟩
   | true =>
    rw [hok, show errno true = 0 from rfl] at hv
    have hokH := hide hok
    clear hok
    go_wp2_with fail
    refine Calls.ret hv ?_
    rintro r w2 ⟨rfl, hb2⟩
    have hb02 := hide (hb.out.trans (hb2.mono hb.out.size))
    clear hv hb2
    go_wp2_with fail
    exact ⟨⟨1, rfl, by omega, hb02, fun _ => by first | exact hokH.out | trivial, fun h => by omega⟩, by simp [intOf]⟩
  ·have hv := validateI_any hBr
   have hc0 : wr.cell? ⟨g, 1, none⟩ = some (.iface 48 (.agg #[.int .i64 b.letters, .int .i64 b.states, .slice B1 b.start.length d1, .slice B2 b.accept.length d2, .slice B3 b.edges.length d3])) := hc 1
   clear hc hAr hBr hlr
   cases hok : b.ok with
   | false =>
    rw [hok, show errno false = 1 from rfl] at hv
    have hR : Hid (errno (a.both b) = 1) := by show _ = _; unfold WA.both; rw [hok, Bool.and_false]; rfl
    clear hok
    go_wp2_with fail
    refine Calls.ret hv ?_
    rintro r w2 ⟨rfl, hb2⟩
    have hb02 := hide (hb.out.trans (hb2.mono hb.out.size))
    clear hv hb2
    go_wp2_with fail
    go_ret
    exact ⟨by rw [hR.out]; first | done | rfl, hb02.out⟩
   | true =>
    rw [hok, show errno true = 0 from rfl] at hv
    have hokH := hide hok
    clear hok
    go_wp2_with fail
    refine Calls.ret hv ?_
    rintro r w2 ⟨rfl, hb2⟩
    have hb02 := hide (hb.out.trans (hb2.mono hb.out.size))
    clear hv hb2
    go_wp2_with fail
    exact ⟨⟨2, rfl, by omega, hb02, fun _ => ha1.out (by omega), fun _ => by first | exact hokH.out | trivial⟩, by simp [intOf]⟩
  ·have hc0 : wr.cell? ⟨g, 0, none⟩ = some (.iface 48 (.agg #[.int .i64 a.letters, .int .i64 a.states, .slice A1 a.start.length c1, .slice A2 a.accept.length c2, .slice A3 a.edges.length c3])) := hc 0
   have hoka := hide (ha1.out (by omega))
   have hokb := hide (hb1.out (by omega))
   clear hc hAr hBr
   have hlrH := hide hlr
   have hs := shapeA_any wr a.letters a.states (.slice A1 a.start.length c1) (.slice A2 a.accept.length c2) (.slice A3 a.edges.length c3)
   clear hlr
   go_wp2_with fail
   refine Calls.ret hs ?_
   rintro r w2 ⟨rfl, hb2⟩
   have hb02 := hide (hb.out.trans (hb2.mono hb.out.size))
   have hl2 := hide (hlrH.out.below hb2)
   clear hs hb2 hc0
   go_wp2_with fail
   go_loopw [33] (fun ii wz => ∃ k : Nat, ii = .int .i64 (k : Int) ∧ k ≤ 2 ∧ Hid (Below w2.heap.size w2 wz) ∧ Hid (1 < k → b.letters = a.letters)) (fun ii _ => 2 - (intOf ii).toNat)
   case atStart => exact ⟨0, rfl, by omega, Below.refl _ _, fun h => by omega⟩
   case round =>
    rename World => wz
    obtain ⟨k, rfl, hk, hbz, hbl⟩ := hrel
    have hc := (hl2.out.below hbz.out).cell
    have hb0z := hide (hb02.out.trans (hbz.out.mono hb02.out.size))
    rcases (show k = 0 ∨ k = 1 ∨ k = 2 by omega) with rfl | rfl | rfl
    ·have hc0 : wz.cell? ⟨g, 0, none⟩ = some (.iface 48 (.agg #[.int .i64 a.letters, .int .i64 a.states, .slice A1 a.start.length c1, .slice A2 a.accept.length c2, .slice A3 a.edges.length c3])) := hc 0
     have hs := shapeA_any wz a.letters a.states (.slice A1 a.start.length c1) (.slice A2 a.accept.length c2) (.slice A3 a.edges.length c3)
     clear hc
     go_wp2_with fail
     refine Calls.ret hs ?_
     rintro r w3 ⟨rfl, hb3⟩
     have hb23 := hide (hbz.out.trans (hb3.mono hbz.out.size))
     clear hs hb3
     go_wp2_with fail
     exact ⟨⟨1, rfl, by omega, hb23, fun h => by omega⟩, by simp [intOf]⟩
    ·have hc0 : wz.cell? ⟨g, 1, none⟩ = some (.iface 48 (.agg #[.int .i64 b.letters, .int .i64 b.states, .slice B1 b.start.length d1, .slice B2 b.accept.length d2, .slice B3 b.edges.length d3])) := hc 1
     have hs := shapeA_any wz b.letters b.states (.slice B1 b.start.length d1) (.slice B2 b.accept.length d2) (.slice B3 b.edges.length d3)
     clear hc
     by_cases heq : b.letters = a.letters
     ·have heqH := hide heq
      rw [heq] at hs
      go_wp2_with fail
      refine Calls.ret hs ?_
      rintro r w3 ⟨rfl, hb3⟩
      have hb23 := hide (hbz.out.trans (hb3.mono hbz.out.size))
      clear hs hb3
      go_wp2_with fail
      exact ⟨⟨2, rfl, by omega, hb23, fun _ => heqH.out⟩, by simp [intOf]⟩
     ·have hR : Hid (errno (a.both b) = 1) := by show _ = _; unfold WA.both; rw [decide_eq_false heq, Bool.and_false]; rfl
      go_wp2_with fail
      refine Calls.ret hs ?_
      rintro r w3 ⟨rfl, hb3⟩
      have hb23 := hide (hb0z.out.trans (hb3.mono hb0z.out.size))
      clear hs hb3
      go_wp2_with fail
      go_ret
      exact ⟨by rw [hR.out]; first | done | rfl, hb23.out⟩
    ·have hR : Hid (errno (a.both b) = 0) := by show _ = _; unfold WA.both; rw [hoka.out, hokb.out, decide_eq_true (hbl.out (by omega))]; rfl
     clear hc
     go_wp2_with fail
     go_ret
     exact ⟨by rw [hR.out]; first | done | rfl, hb0z.out⟩
end Go.Proofs.YtpmceapjnnkhjaaGreatDoor
namespace Go.Proofs.YtpmceapjnnkhjaaGreatDoor
open Go.RowKit
set_option maxHeartbeats 16000000
set_option maxRecDepth 100000
def TR.both (a : TR) (b : WA) : Bool := a.ok && b.ok && decide (b.letters = a.letters)
theorem examineR_any {w : World} {vA vB : Value} {a : TR} {b : WA} {g c : Nat} (hA : IsTR w w.heap.size vA a) (hB : IsWA w w.heap.size vB b) (hl : Blk w g 87 #[.iface 47 vA, .iface 48 vB]) :
  Calls Tryz.prog 23 #[.slice (some ⟨g, 0, none⟩) 2 c] w (Ret fun r w' => r = .int .i64 (errno (a.both b)) ∧ Below w.heap.size w w') := by
 have hAH := hide hA
 have hBH := hide hB
 have hlH := hide hl
 obtain ⟨A1, c1, A2, c2, A3, c3, rfl, -⟩ := hA
 obtain ⟨B1, d1, B2, d2, B3, d3, rfl, -⟩ := hB
 obtain ⟨la, hla⟩ : ∃ la, la = a.letters := ⟨_, rfl⟩
 obtain ⟨lb, hlb⟩ : ∃ lb, lb = b.letters := ⟨_, rfl⟩
 have hlaH := hide hla
 have hlbH := hide hlb
 clear hl hla hlb
 go_enter Tryz.func23, Tryz.ntmps23
 go_wp2_with fail
 go_loopw [14] (fun ii wr => ∃ k : Nat, ii = .int .i64 (k : Int) ∧ k ≤ 2 ∧ Hid (Below w.heap.size w wr) ∧ Hid (0 < k → a.ok = true) ∧ Hid (1 < k → b.ok = true)) (fun ii _ => 2 - (intOf ii).toNat)
 case atStart => exact ⟨0, rfl, by omega, Below.refl _ _, fun h => by omega, fun h => by omega⟩
 case round =>
  obtain ⟨k, rfl, hk, hb, ha1, hb1⟩ := hrel
  have hlr := hlH.out.below hb.out
  have hc := hlr.cell
  have hAr := hAH.out.keep (w' := wr) (fun p hp => hb.out.cell hp) hb.out.size
  have hBr := hBH.out.keep (w' := wr) (fun p hp => hb.out.cell hp) hb.out.size
  rcases (show k = 0 ∨ k = 1 ∨ k = 2 by omega) with rfl | rfl | rfl
  ·have hv := validateRI_any hAr
   have hc0 : wr.cell? ⟨g, 0, none⟩ = some (.iface 47 (.agg #[.int .i64 a.letters, .int .i64 a.states, .slice A1 a.start.length c1, .slice A2 a.accept.length c2, .slice A3 a.moves.length c3])) := hc 0
   clear hc hAr hBr hlr
   cases hok : a.ok with
   | false =>
    rw [hok, show errno false = 1 from rfl] at hv
    have hR : Hid (errno (a.both b) = 1) := by show _ = _; unfold TR.both; rw [hok]; rfl
    clear hok
    go_wp2_with fail
    refine Calls.ret hv ?_
    rintro r w2 ⟨rfl, hb2⟩
    have hb02 := hide (hb.out.trans (hb2.mono hb.out.size))
    clear hv hb2
    go_wp2_with fail
    go_ret
    exact ⟨by rw [hR.out]; first | done | rfl, hb02.out⟩
   | true =>
    rw [hok, show errno true = 0 from rfl] at hv
    have hokH := hide hok
    clear hok
    go_wp2_with fail
    refine Calls.ret hv ?_
    rintro r w2 ⟨rfl, hb2⟩
    have hb02 := hide (hb.out.trans (hb2.mono hb.out.size))
    clear hv hb2
    go_wp2_with fail
    exact ⟨⟨1, rfl, by omega, hb02, fun _ => by first | exact hokH.out | trivial, fun h => by omega⟩, by simp [intOf]⟩
  ·have hv := validateI_any hBr
   have hc0 : wr.cell? ⟨g, 1, none⟩ = some (.iface 48 (.agg #[.int .i64 b.letters, .int .i64 b.states, .slice B1 b.start.length d1, .slice B2 b.accept.length d2, .slice B3 b.edges.length d3])) := hc 1
   clear hc hAr hBr hlr
   cases hok : b.ok with
   | false =>
    rw [hok, show errno false = 1 from rfl] at hv
    have hR : Hid (errno (a.both b) = 1) := by show _ = _; unfold TR.both; rw [hok, Bool.and_false]; rfl
    clear hok
    go_wp2_with fail
    refine Calls.ret hv ?_
    rintro r w2 ⟨rfl, hb2⟩
    have hb02 := hide (hb.out.trans (hb2.mono hb.out.size))
    clear hv hb2
    go_wp2_with fail
    go_ret
    exact ⟨by rw [hR.out]; first | done | rfl, hb02.out⟩
   | true =>
    rw [hok, show errno true = 0 from rfl] at hv
    have hokH := hide hok
    clear hok
    go_wp2_with fail
    refine Calls.ret hv ?_
    rintro r w2 ⟨rfl, hb2⟩
    have hb02 := hide (hb.out.trans (hb2.mono hb.out.size))
    clear hv hb2
    go_wp2_with fail
    exact ⟨⟨2, rfl, by omega, hb02, fun _ => ha1.out (by omega), fun _ => by first | exact hokH.out | trivial⟩, by simp [intOf]⟩
  ·have hc0 : wr.cell? ⟨g, 0, none⟩ = some (.iface 47 (.agg #[.int .i64 a.letters, .int .i64 a.states, .slice A1 a.start.length c1, .slice A2 a.accept.length c2, .slice A3 a.moves.length c3])) := hc 0
   have hoka := hide (ha1.out (by omega))
   have hokb := hide (hb1.out (by omega))
   clear hc hAr hBr
   have hlrH := hide hlr
   have hs := shapeR_any wr a.letters a.states (.slice A1 a.start.length c1) (.slice A2 a.accept.length c2) (.slice A3 a.moves.length c3)
   clear hlr
   go_wp2_with fail
   refine Calls.ret hs ?_
   rintro r w2 ⟨rfl, hb2⟩
   have hb02 := hide (hb.out.trans (hb2.mono hb.out.size))
   have hl2 := hide (hlrH.out.below hb2)
   clear hs hb2 hc0
   go_wp2_with fail
   go_loopw [33] (fun ii wz => ∃ k : Nat, ii = .int .i64 (k : Int) ∧ k ≤ 2 ∧ Hid (Below w2.heap.size w2 wz) ∧ Hid (1 < k → b.letters = a.letters)) (fun ii _ => 2 - (intOf ii).toNat)
   case atStart => exact ⟨0, rfl, by omega, Below.refl _ _, fun h => by omega⟩
   case round =>
    rename World => wz
    obtain ⟨k, rfl, hk, hbz, hbl⟩ := hrel
    have hc := (hl2.out.below hbz.out).cell
    have hb0z := hide (hb02.out.trans (hbz.out.mono hb02.out.size))
    rcases (show k = 0 ∨ k = 1 ∨ k = 2 by omega) with rfl | rfl | rfl
    ·have hc0 : wz.cell? ⟨g, 0, none⟩ = some (.iface 47 (.agg #[.int .i64 a.letters, .int .i64 a.states, .slice A1 a.start.length c1, .slice A2 a.accept.length c2, .slice A3 a.moves.length c3])) := hc 0
     have hs := shapeR_any wz a.letters a.states (.slice A1 a.start.length c1) (.slice A2 a.accept.length c2) (.slice A3 a.moves.length c3)
     clear hc
     go_wp2_with fail
     refine Calls.ret hs ?_
     rintro r w3 ⟨rfl, hb3⟩
     have hb23 := hide (hbz.out.trans (hb3.mono hbz.out.size))
     clear hs hb3
     go_wp2_with fail
     exact ⟨⟨1, rfl, by omega, hb23, fun h => by omega⟩, by simp [intOf]⟩
    ·have hc0 : wz.cell? ⟨g, 1, none⟩ = some (.iface 48 (.agg #[.int .i64 b.letters, .int .i64 b.states, .slice B1 b.start.length d1, .slice B2 b.accept.length d2, .slice B3 b.edges.length d3])) := hc 1
     have hs := shapeA_any wz b.letters b.states (.slice B1 b.start.length d1) (.slice B2 b.accept.length d2) (.slice B3 b.edges.length d3)
     clear hc
     by_cases heq : b.letters = a.letters
     ·have heqH := hide heq
      rw [heq] at hs
      go_wp2_with fail
      refine Calls.ret hs ?_
      rintro r w3 ⟨rfl, hb3⟩
      have hb23 := hide (hbz.out.trans (hb3.mono hbz.out.size))
      clear hs hb3
      go_wp2_with fail
      exact ⟨⟨2, rfl, by omega, hb23, fun _ => heqH.out⟩, by simp [intOf]⟩
     ·have hR : Hid (errno (a.both b) = 1) := by show _ = _; unfold TR.both; rw [decide_eq_false heq, Bool.and_false]; rfl
      go_wp2_with fail
      refine Calls.ret hs ?_
      rintro r w3 ⟨rfl, hb3⟩
      have hb23 := hide (hb0z.out.trans (hb3.mono hb0z.out.size))
      clear hs hb3
      go_wp2_with fail
      go_ret
      exact ⟨by rw [hR.out]; first | done | rfl, hb23.out⟩
    ·have hR : Hid (errno (a.both b) = 0) := by show _ = _; unfold TR.both; rw [hoka.out, hokb.out, decide_eq_true (hbl.out (by omega))]; rfl
     clear hc
     go_wp2_with fail
     go_ret
     exact ⟨by rw [hR.out]; first | done | rfl, hb0z.out⟩
end Go.Proofs.YtpmceapjnnkhjaaGreatDoor
