/-
  Part JH of a proof.
-/
import Derived.Test.YtakpmdmjbgipiaaGreatDoorPA
import Derived.Test.YtakpmdmjbgipiaaGreatDoorPI
set_option maxHeartbeats 16000000
set_option maxRecDepth 100000
set_option linter.unusedVariables false
set_option linter.unusedSimpArgs false
namespace Go.Proofs.YtakpmdmjbgipiaaGreatDoor
open Go.RowKit
set_option maxHeartbeats 16000000
set_option maxRecDepth 100000
def WA.both (a b : WA) : Bool := a.ok && b.ok && decide (b.letters = a.letters)
theorem examine_any {w : World} {vA vB : Value} {a b : WA} {g c : Nat} (hA : IsWA w w.heap.size vA a) (hB : IsWA w w.heap.size vB b) (hl : Blk w g 87 #[.iface 48 vA, .iface 48 vB]) :
  Calls Tryz.prog 23 #[.slice (some ⟨g, 0, none⟩) 2 c] w (Ret fun r w' => r = .int .i64 (errno (a.both b)) ∧ Below w.heap.size w w') := by
 have hAH := hide hA
 have hBH := hide hB
 have hlH := hide hl
 obtain ⟨A1, c1, A2, c2, A3, c3, rfl, -⟩ := hA
 obtain ⟨B1, d1, B2, d2, B3, d3, rfl, -⟩ := hB
 obtain ⟨la, hla⟩ : ∃ la, la = a.letters := ⟨_, rfl⟩
 obtain ⟨lb, hlb⟩ : ∃ lb, lb = b.letters := ⟨_, rfl⟩
 have hlaH := hide hla
 have hlbH := hide hlb
 clear hl hla hlb
 go_enter Tryz.func23, Tryz.ntmps23
 go_wp2_with fail
 go_loopw [14] (fun ii wr => ∃ k : Nat, ii = .int .i64 (k : Int) ∧ k ≤ 2 ∧ Hid (Below w.heap.size w wr) ∧ Hid (0 < k → a.ok = true) ∧ Hid (1 < k → b.ok = true)) (fun ii _ => 2 - (intOf ii).toNat)
 case atStart => exact ⟨0, rfl, by omega, Below.refl _ _, fun h => by omega, fun h => by omega⟩
 case round =>
  obtain ⟨k, rfl, hk, hb, ha1, hb1⟩ := hrel
  have hlr := hlH.out.below hb.out
  have hc := hlr.cell
  have hAr := hAH.out.keep (w' := wr) (fun p hp => hb.out.cell hp) hb.out.size
  have hBr := hBH.out.keep (w' := wr) (fun p hp => hb.out.cell hp) hb.out.size
  rcases (show k = 0 ∨ k = 1 ∨ k = 2 by omega) with rfl | rfl | rfl
  ·have hv := validateI_any hAr
   have hc0 : wr.cell? ⟨g, 0, none⟩ = some (.iface 48 (.agg #[.int .i64 a.letters, .int .i64 a.states, .slice A1 a.start.length c1, .slice A2 a.accept.length c2, .slice A3 a.edges.length c3])) := hc 0
   clear hc hAr hBr hlr
   cases hok : a.ok with
   | false =>
    rw [hok, show errno false = 1 from rfl] at hv
    have hR : Hid (errno (a.both b) = 1) := by show _ = _; unfold WA.both; rw [hok]; rfl
    clear hok
    go_wp2_with fail
    refine Calls.ret hv ?_
    rintro r w2 ⟨rfl, hb2⟩
    have hb02 := hide (hb.out.trans (hb2.mono hb.out.size))
    clear hv hb2
    go_wp2_with fail
    go_ret
    exact ⟨by rw [hR.out]; first | done | rfl, hb02.out⟩
   | true =>
    rw [hok, show errno true = 0 from rfl] at hv
    have hokH := hide hok
    clear hok
    go_wp2_with fail
    refine Calls.ret hv ?_
    rintro r w2 ⟨rfl, hb2⟩
    have hb02 := hide (hb.out.trans (hb2.mono hb.out.size))
    clear hv hb2
    go_wp2_with fail
    exact ⟨⟨1, rfl, by omega, hb02, fun _ => by first | exact hokH.out | trivial, fun h => by omega⟩, by simp [intOf]⟩
  ·have hv := validateI_any hBr
   have hc0 : wr.cell? ⟨g, 1, none⟩ = some (.iface 48 (.agg #[.int .i64 b.letters, .int .i64 b.states, .slice B1 b.start.length d1, .slice B2 b.accept.length d2, .slice B3 b.edges.length d3])) := hc 1
   clear hc hAr hBr hlr
   cases hok : b.ok with
   | false =>
    rw [hok, show errno false = 1 from rfl] at hv
    have hR : Hid (errno (a.both b) = 1) := by show _ = _; unfold WA.both; rw [hok, Bool.and_false]; rfl
    clear hok
    go_wp2_with fail
    refine Calls.ret hv ?_
    rintro r w2 ⟨rfl, hb2⟩
    have hb02 := hide (hb.out.trans (hb2.mono hb.out.size))
    clear hv hb2
    go_wp2_with fail
    go_ret
    exact ⟨by rw [hR.out]; first | done | rfl, hb02.out⟩
   | true =>
    rw [hok, show errno true = 0 from rfl] at hv
    have hokH := hide hok
    clear hok
    go_wp2_with fail
    refine Calls.ret hv ?_
    rintro r w2 ⟨rfl, hb2⟩
    have hb02 := hide (hb.out.trans (hb2.mono hb.out.size))
    clear hv hb2
    go_wp2_with fail
    exact ⟨⟨2, rfl, by omega, hb02, fun _ => ha1.out (by omega), fun _ => by first | exact hokH.out | trivial⟩, by simp [intOf]⟩
  ·have hc0 : wr.cell? ⟨g, 0, none⟩ = some (.iface 48 (.agg #[.int .i64 a.letters, .int .i64 a.states, .slice A1 a.start.length c1, .slice A2 a.accept.length c2, .slice A3 a.edges.length c3])) := hc 0
   have hoka := hide (ha1.out (by omega))
   have hokb := hide (hb1.out (by omega))
   clear hc hAr hBr
   have hlrH := hide hlr
   have hs := shapeA_any wr a.letters a.states (.slice A1 a.start.length c1) (.slice A2 a.accept.length c2) (.slice A3 a.edges.length c3)
   clear hlr
   go_wp2_with fail
   refine Calls.ret hs ?_
   rintro r w2 ⟨rfl, hb2⟩
   have hb02 := hide (hb.out.trans (hb2.mono hb.out.size))
   have hl2 := hide (hlrH.out.below hb2)
   clear hs hb2 hc0
   go_wp2_with fail
   go_loopw [33] (fun ii wz => ∃ k : Nat, ii = .int .i64 (k : Int) ∧ k ≤ 2 ∧ Hid (Below w2.heap.size w2 wz) ∧ Hid (1 < k → b.letters = a.letters)) (fun ii _ => 2 - (intOf ii).toNat)
   case atStart => exact ⟨0, rfl, by omega, Below.refl _ _, fun h => by omega⟩
   case round =>
    rename World => wz
    obtain ⟨k, rfl, hk, hbz, hbl⟩ := hrel
    have hc := (hl2.out.below hbz.out).cell
    have hb0z := hide (hb02.out.trans (hbz.out.mono hb02.out.size))
    rcases (show k = 0 ∨ k = 1 ∨ k = 2 by omega) with rfl | rfl | rfl
    ·have hc0 : wz.cell? ⟨g, 0, none⟩ = some (.iface 48 (.agg #[.int .i64 a.letters, .int .i64 a.states, .slice A1 a.start.length c1, .slice A2 a.accept.length c2, .slice A3 a.edges.length c3])) := hc 0
     have hs := shapeA_any wz a.letters a.states (.slice A1 a.start.length c1) (.slice A2 a.accept.length c2) (.slice A3 a.edges.length c3)
     clear hc
     go_wp2_with fail
     refine Calls.ret hs ?_
     rintro r w3 ⟨rfl, hb3⟩
     have hb23 := hide (hbz.out.trans (hb3.mono hbz.out.size))
     clear hs hb3
     go_wp2_with fail
     exact ⟨⟨1, rfl, by omega, hb23, fun h => by omega⟩, by simp [intOf]⟩
    ·have hc0 : wz.cell? ⟨g, 1, none⟩ = some (.iface 48 (.agg #[.int .i64 b.letters, .int .i64 b.states, .slice B1 b.start.length d1, .slice B2 b.accept.length d2, .slice B3 b.edges.length d3])) := hc 1
     have hs := shapeA_any wz b.letters b.states (.slice B1 b.start.length d1) (.slice B2 b.accept.length d2) (.slice B3 b.edges.length d3)
     clear hc
     by_cases heq : b.letters = a.letters
     ·have heqH := hide heq
      rw [heq] at hs
      go_wp2_with fail
      refine Calls.ret hs ?_
      rintro r w3 ⟨rfl, hb3⟩
      have hb23 := hide (hbz.out.trans (hb3.mono hbz.out.size))
      clear hs hb3
      go_wp2_with fail
      exact ⟨⟨2, rfl, by omega, hb23, fun _ => heqH.out⟩, by simp [intOf]⟩
     ·have hR : Hid (errno (a.both b) = 1) := by show _ = _; unfold WA.both; rw [decide_eq_false heq, Bool.and_false]; rfl
      go_wp2_with fail
      refine Calls.ret hs ?_
      rintro r w3 ⟨rfl, hb3⟩
      have hb23 := hide (hb0z.out.trans (hb3.mono hb0z.out.size))
      clear hs hb3
      go_wp2_with fail
      go_ret
      exact ⟨by rw [hR.out]; first | done | rfl, hb23.out⟩
    ·have hR : Hid (errno (a.both b) = 0) := by show _ = _; unfold WA.both; rw [hoka.out, hokb.out, decide_eq_true (hbl.out (by omega))]; rfl
     clear hc
     go_wp2_with fail
     go_ret
     exact ⟨by rw [hR.out]; first | done | rfl, hb0z.out⟩
end Go.Proofs.YtakpmdmjbgipiaaGreatDoor
namespace Go.Proofs.YtakpmdmjbgipiaaGreatDoor
open Go.RowKit
set_option maxHeartbeats 16000000
set_option maxRecDepth 100000
theorem run_load72 {w : World} {g : Nat} {u0 u1 : Value} (h0 : w.cell? ⟨g, 0, none⟩ = some u0) (h1 : w.cell? ⟨g, 1, none⟩ = some u1) :
  (Instr.loadAt 52 (.pointer (some ⟨g, 0, none⟩))).run Tryz.prog w = .ok (.agg #[u0, u1]) w := by
 simp [go_sem, h0, h1]
theorem same_load72 {ops : Array Oper} {q : Oper} {b : Act} {w w' : World} {x : Operand} {g : Nat} {u0 u1 : Value} (ho : q.op = .load 52 x) (hx : b.eval x = .pointer (some ⟨g, 0, none⟩))
  (h0 : w.cell? ⟨g, 0, none⟩ = some u0) (h1 : w.cell? ⟨g, 1, none⟩ = some u1) (h0' : w'.cell? ⟨g, 0, none⟩ = some u0) (h1' : w'.cell? ⟨g, 1, none⟩ = some u1) : Reg.Same Tryz.prog ops q b w w' := by
 intro _ v hv
 obtain ⟨dst, op, type, pos, after, guard⟩ := q
 dsimp only at ho
 subst ho
 have e : ∀ w1, w1.cell? ⟨g, 0, none⟩ = some u0 → w1.cell? ⟨g, 1, none⟩ = some u1 → (execOp b.eval { dst, op := .load 52 x, type, pos, after, guard }).run Tryz.prog w1 = .ok (.value (.agg #[u0, u1])) w1 := fun w1 h0 h1 => by
  show ((Instr.loadAt 52 (b.eval x)) >>= fun v => (Pure.pure (Next.value v) : Sem Next)).run Tryz.prog w1 = _
  rw [hx]
  exact Reg.run_value (run_load72 h0 h1)
 rw [e w h0 h1] at hv
 injection hv with hv _
 rw [← hv]
 exact e w' h0' h1'
def Sl0 (v : Value) : Prop := ∃ A n c, v = .slice A n c
def PairRet (w : World) (a b : WA) (v : Value) (w' : World) : Prop :=
 Below w.heap.size w w' ∧ ((a.both b = false ∧ v = .tuple #[.agg #[sn0, sn0], .agg #[sn0, sn0], .int .i64 1]) ∨
  (a.both b = true ∧ (a.nf.Large 400 ∨ b.nf.Large 400) ∧ ∃ x0 x1 y0 y1, Sl0 x0 ∧ Sl0 x1 ∧ Sl0 y0 ∧ Sl0 y1 ∧ v = .tuple #[.agg #[x0, x1], .agg #[y0, y1], .int .i64 4]) ∨
  (a.both b = true ∧ ¬ a.nf.Large 400 ∧ ¬ b.nf.Large 400 ∧ ∃ t ac u bc x0 x1 y0 y1, CanT a.L t ac a.lang ∧ CanT b.L u bc b.lang ∧ ac.length ≤ 400 ∧ bc.length ≤ 400 ∧ v = .tuple #[.agg #[x0, x1], .agg #[y0, y1], .int .i64 0] ∧
   ∀ w'', Kept w' w'' (fun k => k < w.heap.size) → IsDF w'' w''.heap.size (.agg #[x0, x1]) t ac ∧ IsDF w'' w''.heap.size (.agg #[y0, y1]) u bc))
theorem WA.both_iff {a b : WA} : a.both b = true ↔ a.ok = true ∧ b.ok = true ∧ b.letters = a.letters := by
 simp [WA.both, Bool.and_eq_true, and_assoc]
theorem pair_any {vA vB : Value} {a b : WA} {w : World} (hA : IsWA w w.heap.size vA a) (hB : IsWA w w.heap.size vB b) (hea : a.edges.length ≤ 3000000) (hsa : a.start.length ≤ 4000000) (heb : b.edges.length ≤ 3000000) (hsb : b.start.length ≤ 4000000) (hT : PowT w) :
  Calls Tryz.prog 36 #[vA, vB] w (Ret fun r w' => PairRet w a b r w') := by
 have hAH := hide hA
 have hBH := hide hB
 have hTH := hide hT
 obtain ⟨A1, c1, A2, c2, A3, c3, rfl, -⟩ := hA
 obtain ⟨B1, d1, B2, d2, B3, d3, rfl, -⟩ := hB
 obtain ⟨w1, hw1, hb1, hB1, hk1⟩ := box_blk w #[.int .i64 a.letters, .int .i64 a.states, .slice A1 a.start.length c1, .slice A2 a.accept.length c2, .slice A3 a.edges.length c3] 28
 obtain ⟨w2, hw2, hb2, hB2, hk2⟩ := box_blk w1 #[.int .i64 b.letters, .int .i64 b.states, .slice B1 b.start.length d1, .slice B2 b.accept.length d2, .slice B3 b.edges.length d3] 28
 obtain ⟨w3, hw3, hb3, hB3, hk3⟩ := box_blk w2 #[sn0, sn0] 52
 obtain ⟨w4, hw4, hb4, hB4, hk4⟩ := box_blk w3 #[sn0, sn0] 52
 obtain ⟨w5, hw5, hb5, hB5, hk5⟩ := box_blk w4 #[.iface 48 (.agg #[.int .i64 a.letters, .int .i64 a.states, .slice A1 a.start.length c1, .slice A2 a.accept.length c2, .slice A3 a.edges.length c3]), .iface 48 (.agg #[.int .i64 b.letters, .int .i64 b.states, .slice B1 b.start.length d1, .slice B2 b.accept.length d2, .slice B3 b.edges.length d3])] 87
 have s1 := hb1.size
 have s2 := hb2.size
 have s3 := hb3.size
 have s4 := hb4.size
 have s5 := hb5.size
 have l1 := hB1.lt
 have l2 := hB2.lt
 have l3 := hB3.lt
 have l4 := hB4.lt
 have b25 : Below w2.heap.size w2 w5 := hb3.trans ((hb4.mono s3).trans (hb5.mono (by omega)))
 have b15 : Below w1.heap.size w1 w5 := hb2.trans (b25.mono s2)
 have b05 := hide (hb1.trans (b15.mono s1))
 have hBa5 := hide (hB1.below b15)
 have hBb5 := hide (hB2.below b25)
 have hBx5 := hide ((hB3.below hb4).below hb5)
 have hBy5 := hide (hB4.below hb5)
 have hc4 := ((hB1.below hb2).below hb3).below hb4
 have hc4' := hc4.cell
 have hd4 := ((hB2.below hb3).below hb4).cell
 have hex := examine_any (c := 2) (hAH.out.keep (w' := w5) (fun p hp => b05.out.cell hp) b05.out.size) (hBH.out.keep (w' := w5) (fun p hp => b05.out.cell hp) b05.out.size) hB5
 clear hk1 hk2 hk3 hk4 hk5 hB1 hB2 hB3 hB4 hB5 hb1 hb2 hb3 hb4 hb5 b25 b15 hT hc4
 go_enter Tryz.func36, Tryz.ntmps36
 go_wp2_with fail
 refine Calls.ret hex ?_
 rintro r w6 ⟨rfl, hb6⟩
 have s6 := hb6.size
 have b06 := hide (b05.out.trans (hb6.mono b05.out.size))
 have hBa6 := hide (hBa5.out.below hb6)
 have hBb6 := hide (hBb5.out.below hb6)
 have hBx6 := hide (hBx5.out.below hb6)
 have hBy6 := hide (hBy5.out.below hb6)
 clear hex hb6 hc4' hd4
 rcases hbo : a.both b with _ | _
 ·have hboH := hide hbo
  rw [show errno false = 1 from rfl]
  clear hbo
  have hx := hBx6.out
  have hy := hBy6.out
  obtain ⟨wA, hwA, hBA, hKA⟩ := set2_facts hx sn0 sn0
  have hy2 := hy.kept hKA (by omega)
  obtain ⟨wB, hwB, hBB, hKB⟩ := set2_facts hy2 sn0 sn0
  have hxB := hBA.kept hKB (by omega)
  have f1 := hx.frozen
  have f2 := hx.lt
  have f3 := hx.cell
  have f4 := hy2.frozen
  have f5 := hy2.lt
  have f6 := hy2.cell
  have f7 := hBB.cell
  have f8 := hxB.cell
  have hbF := hide ((b06.out.trans (hKA.below (by have := b06.out.size; omega) fun b hb e => by omega)).trans (hKB.below (by have := b06.out.size; have := hKA.size; omega) fun b hb e => by omega))
  unfold set2 at hwA hwB
  clear hx hy hy2 hxB hBA hKA hBB hKB
  go_wp2_with fail
  refine bodyPost_ret (v := .tuple #[.agg #[sn0, sn0], .agg #[sn0, sn0], .int .i64 1]) (by simp [results, Tryz.results36, go_sem, f7, f8]) rfl ⟨hbF.out, .inl ⟨hboH.out, rfl⟩⟩
 ·obtain ⟨hoka, hokb, hle⟩ := WA.both_iff.1 hbo
  have hboH := hide hbo
  have hokaH := hide hoka
  have hokbH := hide hokb
  obtain ⟨oa, hina⟩ := WA.ok_iff.1 hoka
  obtain ⟨ob, hinb⟩ := WA.ok_iff.1 hokb
  have hcan := canonical_any (hAH.out.keep (w' := w6) (fun p hp => b06.out.cell hp) b06.out.size) hina ⟨by omega, by omega⟩ ⟨by omega, by omega⟩ hea hsa (hTH.out.below b06.out)
  have hcanb := hide (fun (wx : World) (hb : Below w.heap.size w wx) => canonical_any (hBH.out.keep (w' := wx) (fun p hp => hb.cell hp) hb.size) hinb ⟨by omega, by omega⟩ ⟨by omega, by omega⟩ heb hsb (hTH.out.below hb))
  rw [show errno true = 0 from rfl]
  have hcx := hBa6.out.cell
  clear hbo hoka hokb hle oa ob hina hinb
  go_wp2_with fail
  refine Calls.ret hcan ?_
  rintro r w7 ⟨hb7, hcase⟩
  have s7 := hb7.size
  have b07 := hide (b06.out.trans (hb7.mono b06.out.size))
  have hBb7 := hide (hBb6.out.below hb7)
  have hx := hBx6.out.below hb7
  have hy := hBy6.out.below hb7
  clear hcan hb7 hcx
  rcases hcase with ⟨hLg, rfl⟩ | ⟨hLg, t, ac, dA, hC, hac, rfl, hdA⟩
  ·have hLgH := hide hLg
   obtain ⟨wA, hwA, hBA, hKA⟩ := set2_facts hx sn0 sn0
   obtain ⟨wB, hwB, hBB, hKB⟩ := set2_facts hBA sn0 sn0
   have hy2 := (hy.kept hKA (by omega)).kept hKB (by omega)
   obtain ⟨wC, hwC, hBC, hKC⟩ := set2_facts hy2 sn0 sn0
   have hxC := hBB.kept hKC (by omega)
   have f1 := hx.frozen
   have f2 := hx.lt
   have f3 := hx.cell
   have f1' := hBA.frozen
   have f2' := hBA.lt
   have f3' := hBA.cell
   have f4 := hy2.frozen
   have f5 := hy2.lt
   have f6 := hy2.cell
   have f7 := hBC.cell
   have f8 := hxC.cell
   have bs := b07.out.size
   have hbF := hide (((b07.out.trans (hKA.below (by omega) fun b hb e => by omega)).trans (hKB.below (by have := hKA.size; omega) fun b hb e => by omega)).trans (hKC.below (by have := hKA.size; have := hKB.size; omega) fun b hb e => by omega))
   unfold set2 at hwA hwB hwC
   clear hx hy hy2 hxC hBA hKA hBB hKB hBC hKC hLg
   go_wp2_with fail
   refine bodyPost_ret (v := .tuple #[.agg #[sn0, sn0], .agg #[sn0, sn0], .int .i64 4]) (by simp [results, Tryz.results36, go_sem, f7, f8]) rfl ⟨hbF.out, .inr (.inl ⟨hboH.out, .inl hLgH.out, _, _, _, _, ⟨_, _, _, rfl⟩, ⟨_, _, _, rfl⟩, ⟨_, _, _, rfl⟩, ⟨_, _, _, rfl⟩, rfl⟩)⟩
  ·obtain ⟨P1, p1, P2, p2, rfl, -, -⟩ := hdA w7 (Kept.refl _ _)
   obtain ⟨lt, hxa⟩ : ∃ lt, lt = t.length := ⟨_, rfl⟩
   obtain ⟨la, hxb⟩ : ∃ la, la = ac.length := ⟨_, rfl⟩
   rw [← hxa, ← hxb] at hdA ⊢
   have hdAH := hide hdA
   have hLgH := hide hLg
   have hCH := hide hC
   have hacH := hide hac
   obtain ⟨wA, hwA, hBA, hKA⟩ := set2_facts hx (.slice P1 lt p1) (.slice P2 la p2)
   have hyA := hy.kept hKA (by omega)
   have f1 := hx.frozen
   have f2 := hx.lt
   have f3 := hx.cell
   have bs := b07.out.size
   have b0A := hide (b07.out.trans (hKA.below (by omega) fun b hb e => by omega))
   have hcan2 := hcanb.out wA b0A.out
   have hcb := (hBb7.out.kept hKA (by omega)).cell
   have hwAH := hide hwA
   have sA := hKA.size
   have hKAH := hide hKA
   have hBAH := hide hBA
   have hyAH := hide hyA
   unfold set2 at hwA
   clear hdA hLg hC hac hx hy hBA hKA hyA hxa hxb
   go_wp2_with fail
   refine Calls.ret hcan2 ?_
   rintro r w8 ⟨hb8, hcase⟩
   have s8 := hb8.size
   have b08 := hide (b0A.out.trans (hb8.mono b0A.out.size))
   have bs8 := b08.out.size
   rcases hcase with ⟨hLg2, rfl⟩ | ⟨hLg2, u, bc, dB, hC2, hbc, rfl, hdB⟩
   ·have hLg2H := hide hLg2
    have hx8 := hBAH.out.below (hb8.mono (Nat.le_refl _))
    have hy8 := hyAH.out.below (hb8.mono (Nat.le_refl _))
    obtain ⟨wB, hwB, hBB, hKB⟩ := set2_facts hy8 sn0 sn0
    have hxB := hx8.kept hKB (by omega)
    have hxd := hxB.below (drewB wB)
    have hyd := hBB.below (drewB wB)
    obtain ⟨wC, hwC, hBC, hKC⟩ := set2_facts hxB (.slice P1 lt p1) (.slice P2 la p2)
    have hyC := hBB.kept hKC (by omega)
    obtain ⟨wD, hwD, hBD, hKD⟩ := set2_facts hyC sn0 sn0
    have hxD := (hBC.kept hKD (by omega)).below (drewB wD)
    have hyD := hBD.below (drewB wD)
    have sB := hKB.size
    have sC := hKC.size
    have sd := (drewB wB).size
    have f1 := hy8.frozen
    have f2 := hy8.lt
    have f3 := hy8.cell
    have g1 := hxd.frozen
    have g2 := hxd.lt
    have g3 := hxd.cell
    have e1 := hBB.cell
    have e2 := hxB.cell
    have e4 := hxB.frozen
    have e5 := hxB.lt
    have e3 := hyd.cell
    have e6 := (hyC.below (drewB wC)).cell
    have k1 := hyC.frozen
    have k2 := hyC.lt
    have k3 := hyC.cell
    have m1 := hyD.cell
    have m3 := hBD.cell
    have m4 := (hBC.kept hKD (by omega)).cell
    have m2 := hxD.cell
    have sD := hKD.size
    have sdD := (drewB wD).size
    have hKall : Kept w8 wD.drew (fun k => k = w2.heap.size ∨ k = w3.heap.size) := (((hKB.mono fun _ _ e => .inr e).trans hKC fun _ _ e => .inl e).trans hKD fun _ _ e => .inr e).trans (Kept.of_below (drewB wD) (fun _ => False)) fun _ _ e => e.elim
    have hbF := hide (b08.out.trans (hKall.below (by omega) fun b hb e => by omega))
    unfold set2 at hwB hwC hwD
    clear hx8 hy8 hBB hKB hxB hxd hyd hBC hKC hyC hBD hKD hxD hyD hKall hLg2 hcan2 hb8 hcb
    go_wp2_with fail
    refine Reg.cC [0, 0, 0, 1, 11, 31] [0, 1, 2, 3, 4, 5] ?_
    refine Reg.rest_walk' [0, 1, 2] [3, 4, 5] rfl (by kernel_rfl) ?_
    intro Qf hQf
    go_wp2_with fail
    first | refine hQf _ _ ?_ | skip
    try clear hQf
    refine Reg.rest_act' 3 [4, 5] [1] rfl (by kernel_rfl) ?_
    intro Qf hQf
    simp only [gT, gS, gZ]
    go_wp2_with fail
    first | refine hQf _ _ ⟨?_, ?_⟩ | refine ⟨?_, ?_⟩
    ·intro z hz q hq
     simp only [List.mem_singleton] at hz
     subst hz
     injection hq with hq
     subst hq
     exact same_load72 rfl rfl (e3 0) (e3 1) (e6 0) (e6 1)
    try clear hQf
    refine Reg.rest_act' 4 [5] [] rfl (by kernel_rfl) ?_
    intro Qf hQf
    simp only [gT, gS, gZ]
    go_wp2_with fail
    first | refine hQf _ _ ⟨Reg.nm, ?_⟩ | refine ⟨Reg.nm, ?_⟩
    try clear hQf
    refine Reg.rest_walk' [5] [] rfl (by kernel_rfl) ?_
    intro Qf hQf
    go_wp2_with fail
    first | refine hQf _ _ ?_ | skip
    try clear hQf
    refine Reg.rest_end ?_
    go_wp2_with fail
    refine bodyPost_ret (v := .tuple #[.agg #[.slice P1 lt p1, .slice P2 la p2], .agg #[sn0, sn0], .int .i64 4]) (by simp [results, Tryz.results36, go_sem, m1, m2]) rfl ⟨hbF.out, .inr (.inl ⟨hboH.out, .inr hLg2H.out, _, _, _, _, ⟨_, _, _, rfl⟩, ⟨_, _, _, rfl⟩, ⟨_, _, _, rfl⟩, ⟨_, _, _, rfl⟩, rfl⟩)⟩
   ·obtain ⟨Q1, q1, Q2, q2, rfl, -, -⟩ := hdB w8 (Kept.refl _ _)
    obtain ⟨lu, hya⟩ : ∃ lu, lu = u.length := ⟨_, rfl⟩
    obtain ⟨lb, hyb⟩ : ∃ lb, lb = bc.length := ⟨_, rfl⟩
    rw [← hya, ← hyb] at hdB ⊢
    have hLg2H := hide hLg2
    have hC2H := hide hC2
    have hbcH := hide hbc
    have hx8 := hBAH.out.below (hb8.mono (Nat.le_refl _))
    have hy8 := hyAH.out.below (hb8.mono (Nat.le_refl _))
    obtain ⟨wB, hwB, hBB, hKB⟩ := set2_facts hy8 (.slice Q1 lu q1) (.slice Q2 lb q2)
    have hxB := hx8.kept hKB (by omega)
    have hxd := hxB.below (drewB wB)
    have hyd := hBB.below (drewB wB)
    obtain ⟨wC, hwC, hBC, hKC⟩ := set2_facts hxB (.slice P1 lt p1) (.slice P2 la p2)
    have hyC := hBB.kept hKC (by omega)
    obtain ⟨wD, hwD, hBD, hKD⟩ := set2_facts hyC (.slice Q1 lu q1) (.slice Q2 lb q2)
    have hxD := (hBC.kept hKD (by omega)).below (drewB wD)
    have hyD := hBD.below (drewB wD)
    have sB := hKB.size
    have sC := hKC.size
    have sd := (drewB wB).size
    have f1 := hy8.frozen
    have f2 := hy8.lt
    have f3 := hy8.cell
    have g1 := hxd.frozen
    have g2 := hxd.lt
    have g3 := hxd.cell
    have e1 := hBB.cell
    have e2 := hxB.cell
    have e4 := hxB.frozen
    have e5 := hxB.lt
    have e3 := hyd.cell
    have e6 := (hyC.below (drewB wC)).cell
    have k1 := hyC.frozen
    have k2 := hyC.lt
    have k3 := hyC.cell
    have m1 := hyD.cell
    have m3 := hBD.cell
    have m4 := (hBC.kept hKD (by omega)).cell
    have m2 := hxD.cell
    have sD := hKD.size
    have sdD := (drewB wD).size
    have hKall : Kept w8 wD.drew (fun k => k = w2.heap.size ∨ k = w3.heap.size) := (((hKB.mono fun _ _ e => .inr e).trans hKC fun _ _ e => .inl e).trans hKD fun _ _ e => .inr e).trans (Kept.of_below (drewB wD) (fun _ => False)) fun _ _ e => e.elim
    have hbF := hide (b08.out.trans (hKall.below (by omega) fun b hb e => by omega))
    have hfin := hide (fun w'' (hk : Kept wD.drew w'' (fun k => k < w.heap.size)) => And.intro (hdAH.out w'' ((((hKAH.out.mono (Y := fun k => k < w6.heap.size) fun b _ e => by omega).trans (Kept.of_below hb8 (fun _ => False)) fun _ _ e => e.elim).trans hKall fun b _ e => by omega).trans hk fun b _ e => by omega)) (hdB w'' ((hKall.mono (fun b _ e => by omega)).trans hk fun b _ e => by omega)))
    unfold set2 at hwB hwC hwD
    clear hx8 hy8 hBB hKB hxB hxd hyd hBC hKC hyC hBD hKD hxD hyD hKall hLg2 hC2 hbc hdB hcan2 hb8 hcb hya hyb
    go_wp2_with fail
    refine Reg.cC [0, 0, 0, 1, 11, 31] [0, 1, 2, 3, 4, 5] ?_
    refine Reg.rest_walk' [0, 1, 2] [3, 4, 5] rfl (by kernel_rfl) ?_
    intro Qf hQf
    go_wp2_with fail
    first | refine hQf _ _ ?_ | skip
    try clear hQf
    refine Reg.rest_act' 3 [4, 5] [1] rfl (by kernel_rfl) ?_
    intro Qf hQf
    simp only [gT, gS, gZ]
    go_wp2_with fail
    first | refine hQf _ _ ⟨?_, ?_⟩ | refine ⟨?_, ?_⟩
    ·intro z hz q hq
     simp only [List.mem_singleton] at hz
     subst hz
     injection hq with hq
     subst hq
     exact same_load72 rfl rfl (e3 0) (e3 1) (e6 0) (e6 1)
    try clear hQf
    refine Reg.rest_act' 4 [5] [] rfl (by kernel_rfl) ?_
    intro Qf hQf
    simp only [gT, gS, gZ]
    go_wp2_with fail
    first | refine hQf _ _ ⟨Reg.nm, ?_⟩ | refine ⟨Reg.nm, ?_⟩
    try clear hQf
    refine Reg.rest_walk' [5] [] rfl (by kernel_rfl) ?_
    intro Qf hQf
    go_wp2_with fail
    first | refine hQf _ _ ?_ | skip
    try clear hQf
    refine Reg.rest_end ?_
    go_wp2_with fail
    refine bodyPost_ret (v := .tuple #[.agg #[.slice P1 lt p1, .slice P2 la p2], .agg #[.slice Q1 lu q1, .slice Q2 lb q2], .int .i64 0]) (by simp [results, Tryz.results36, go_sem, m1, m2]) rfl ⟨hbF.out, .inr (.inr ⟨hboH.out, hLgH.out, hLg2H.out, t, ac, u, bc, _, _, _, _, hCH.out, hC2H.out, hacH.out, hbcH.out, rfl, hfin.out⟩)⟩
end Go.Proofs.YtakpmdmjbgipiaaGreatDoor
