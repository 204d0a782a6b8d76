/-
  Part JK of a proof.
-/
import Derived.Test.YtakpmdmjbgipiaaGreatDoorPA
import Derived.Test.YtakpmdmjbgipiaaGreatDoorJC
import Derived.Test.YtakpmdmjbgipiaaGreatDoorJD
import Derived.Test.YtakpmdmjbgipiaaGreatDoorJA
import Derived.Test.YtakpmdmjbgipiaaGreatDoorJI
set_option maxHeartbeats 16000000
set_option maxRecDepth 100000
set_option linter.unusedVariables false
set_option linter.unusedSimpArgs false
namespace Go.Proofs.YtakpmdmjbgipiaaGreatDoor
open Go.RowKit
set_option maxHeartbeats 16000000
set_option maxRecDepth 100000
def RefMinRet (w : World) (a : WA) (v : Value) (w' : World) : Prop :=
 Below w.heap.size w w' ∧ ((a.nf.Large 400 ∧ v = .tuple #[.agg zero25, .int .i64 4]) ∨
  (¬ a.nf.Large 400 ∧ ∃ t ac d, CanT a.L t ac a.lang ∧ ac.length ≤ 400 ∧ v = .tuple #[d, .int .i64 0] ∧ ∀ w'', Kept w' w'' (fun k => k < w.heap.size) → IsWA w'' w''.heap.size d (plainW a.L t ac)))
theorem one_boxR (w : World) (x0 x1 : Value) : ∃ w5 wA, w.alloc (.cells #[sn0, sn0] 77) = w5 ∧ set2 w5 w.heap.size x0 x1 = wA ∧ Blk w5 w.heap.size 77 #[sn0, sn0] ∧ Blk wA w.heap.size 77 #[x0, x1] ∧ Below w.heap.size w wA ∧ w.heap.size < wA.heap.size := by
 obtain ⟨w5, hw5, hb5, hB5, hk5⟩ := box_blk w #[sn0, sn0] 77
 obtain ⟨wA, hwA, hBA, hKA⟩ := set2_facts hB5 x0 x1
 exact ⟨w5, wA, hw5, hwA, hB5, hBA, hb5.trans (hKA.below hb5.size fun b hb e => by omega), hBA.lt⟩
theorem refminimal_any {v : Value} {a : WA} {w : World} (h : IsWA w w.heap.size v a) (hin : a.In) (hS : 0 ≤ a.states ∧ a.states ≤ 200000) (hLl : 0 ≤ a.letters ∧ a.letters ≤ 8) :
  Calls Tryz.prog 30 #[v] w (Ret fun r w' => RefMinRet w a r w') := by
 have hWH := hide h
 obtain ⟨A1, c1, A2, c2, A3, c3, rfl, -⟩ := h
 have hLe : a.letters = (a.L : Int) := by unfold WA.L; omega
 have hL8 := hide (show a.L ≤ 8 from by unfold WA.L; omega)
 obtain ⟨w1, hw1, hb1, hB1, hk1⟩ := box_blk w #[.int .i64 a.letters, .int .i64 a.states, .slice A1 a.start.length c1, .slice A2 a.accept.length c2, .slice A3 a.edges.length c3] 28
 obtain ⟨w2, hw2, hb2, hB2, hk2⟩ := box_blk w1 zero25 28
 have s1 := hb1.size
 have l1 := hB1.lt
 have b02 := hide (hb1.trans (hb2.mono s1))
 have hBx2 := hide (hB1.below hb2)
 have hBr2 := hide hB2
 have f1 := hBx2.out.cell
 have hsub := refsubsets_any (k := 400) (hWH.out.keep (w' := w2) (fun p hp => b02.out.cell hp) b02.out.size) hin hS hLl (by omega)
 rw [hLe] at hw1 f1 hsub hBx2 ⊢
 clear hb1 hB1 hk1 hb2 hB2 hk2 hin hS hLl hLe
 go_enter Tryz.func30, Tryz.ntmps30
 go_wp2_with fail
 refine Calls.ret hsub ?_
 rintro r w4 ⟨hb4, hr⟩
 have b04 := hide (b02.out.trans (hb4.mono b02.out.size))
 have hBx4 := hide (hBx2.out.below hb4)
 have hBr4 := hide (hBr2.out.below hb4)
 have s4 := b04.out.size
 have l4 := hBr4.out.lt
 have s2 := b02.out.size
 have s24 := hb4.size
 clear hsub hb4 f1
 rcases hr with ⟨hLg, rfl⟩ | ⟨all, d, hD, hal, hO, rfl⟩
 ·obtain ⟨w5, w6, hw5, hw6, hB5, hB6, hb46, hs46⟩ := one_boxR w4 sn0 sn0
  have hf5 := hB5.frozen
  have hl5 := hB5.lt
  have hc5 := hB5.cell
  have hb06 := b04.out.trans (hb46.mono s4)
  have hR6 := hBr4.out.below hb46
  have hf6 := hR6.frozen
  have hl6 := hR6.lt
  have hc6 := hR6.cell
  obtain ⟨wF, hwF, hBF, hKF⟩ := set5_facts hR6 (.int .i64 0) (.int .i64 0) sn0 sn0 sn0
  have hBFc := hBF.cell
  have hbF := hide (hb06.trans (hKF.below hb06.size fun b hb e => by omega))
  have hLgH := hide hLg
  unfold set5 at hwF
  unfold set2 at hw6
  clear hLg hB5 hB6 hb46 hb06 hR6 hBF hKF
  go_wp2_with fail
  refine bodyPost_ret (v := .tuple #[.agg zero25, .int .i64 4]) (by simp [results, Tryz.results30, go_sem, hBFc]) rfl ⟨hbF.out, .inl ⟨hLgH.out, rfl⟩⟩
 ·have hnl := hide (NF.not_large (a := a.nf) hD hal)
  have hdk : DOK a.L (rowsG a.L a.nf.after all all.length) (all.map a.nf.has) := rowsG_dok hD (by simp)
  have hrd := hO.read (fun r hr => by
   have h1 := (hdk.row r hr).1
   have h2 := hL8.out
   omega) (by rw [rowsG_len (Nat.le_refl _)]; omega) (by rw [List.length_map]; omega)
  obtain ⟨vN, vA, ws, rfl, hA, hN, -⟩ := hO
  obtain ⟨AN, cN, rfl⟩ := slice_of_own hN
  obtain ⟨AA, cA, rfl⟩ := slice_of_own hA
  obtain ⟨w5, w6, hw5, hw6, hB5, hB6, hb46, hs46⟩ := one_boxR w4 (.slice AN (rowsG a.L a.nf.after all all.length).length cN) (.slice AA (all.map a.nf.has).length cA)
  have hf5 := hB5.frozen
  have hl5 := hB5.lt
  have hc5 := hB5.cell
  have hc6 := hB6.cell
  have b06 := hide (b04.out.trans (hb46.mono s4))
  have hR6 := hide (hBr4.out.below hb46)
  have hx6 := (hBx4.out.below hb46).cell
  have hT6 : TabF w6 a.L all.length (.slice AN (rowsG a.L a.nf.after all all.length).length cN) (.slice AA (all.map a.nf.has).length cA) (rowsG a.L a.nf.after all all.length) (all.map a.nf.has) := ⟨hrd.keep (fun p hp => hb46.cell hp) hb46.size, hdk, by simp⟩
  have hcan := refcanon_any hT6 (by omega) hL8.out
  have hlang := hide (fun (t' : List (List Nat)) (ac' : List Bool) (h : CanT a.L t' ac' (langT (rowsG a.L a.nf.after all all.length) (all.map a.nf.has))) => h.congr (Λ' := a.lang) fun z hz => (rowsG_lang hD a.nf.has hz).symm)
  have halH := hide hal
  obtain ⟨lr, hlr⟩ : ∃ n, n = (rowsG a.L a.nf.after all all.length).length := ⟨_, rfl⟩
  obtain ⟨la, hla⟩ : ∃ n, n = (all.map a.nf.has).length := ⟨_, rfl⟩
  rw [← hlr, ← hla] at hw6 hc6 hcan ⊢
  unfold set2 at hw6
  have s6 := b06.out.size
  have s46 := hb46.size
  clear hD hal hA hN hrd hdk hB5 hB6 hb46 hT6 hlr hla
  go_wp2_with fail
  refine Calls.ret hcan ?_
  rintro d w7 ⟨hb7, t', ac', hC, hacl, hI⟩
  obtain ⟨A1', c1', A2', c2', A3', c3', rfl, -, -, -, -⟩ := hI w7 (Kept.refl _ _)
  have hR7 := hR6.out.below hb7
  have hf7 := hR7.frozen
  have hl7 := hR7.lt
  have hc7 := hR7.cell
  have hs7 := hb7.size
  have hCH := hide (hlang.out t' ac' hC)
  have haclH := hide (Nat.le_trans hacl halH.out)
  generalize (plainW a.L t' ac').letters = x0 at hI ⊢
  generalize (plainW a.L t' ac').states = x1 at hI ⊢
  generalize (plainW a.L t' ac').start.length = n1 at hI ⊢
  generalize (plainW a.L t' ac').accept.length = n2 at hI ⊢
  generalize (plainW a.L t' ac').edges.length = n3 at hI ⊢
  obtain ⟨wF, hwF, hBF, hKF⟩ := set5_facts hR7 (.int .i64 x0) (.int .i64 x1) (.slice A1' n1 c1') (.slice A2' n2 c2') (.slice A3' n3 c3')
  have hBFc := hBF.cell
  have hbF := hide ((b06.out.trans (hb7.mono s6)).trans (hKF.below (by omega) fun b hb e => by omega))
  have hlR6 := hR6.out.lt
  have hfin := hide (fun w'' (hk : Kept wF w'' (fun k => k < w.heap.size)) => hI w'' ((hKF.mono (fun b _ e => by omega)).trans hk (fun b _ e => by omega)))
  unfold set5 at hwF
  clear hcan hI hR7 hBF hKF hb7 hC hacl
  go_wp2_with fail
  refine bodyPost_ret (v := .tuple #[.agg #[.int .i64 x0, .int .i64 x1, .slice A1' n1 c1', .slice A2' n2 c2', .slice A3' n3 c3'], .int .i64 0]) (by simp [results, Tryz.results30, go_sem, hBFc]) rfl ⟨hbF.out, .inr ⟨hnl.out, t', ac', _, hCH.out, haclH.out, rfl, hfin.out⟩⟩
end Go.Proofs.YtakpmdmjbgipiaaGreatDoor
namespace Go.Proofs.YtakpmdmjbgipiaaGreatDoor
open Go.RowKit
set_option maxHeartbeats 16000000
set_option maxRecDepth 100000
def Ag5 (v : Value) : Prop := ∃ (x0 x1 : Int) (A1 : Option Addr) (n1 c1 : Nat) (A2 : Option Addr) (n2 c2 : Nat) (A3 : Option Addr) (n3 c3 : Nat), v = .agg #[.int .i64 x0, .int .i64 x1, .slice A1 n1 c1, .slice A2 n2 c2, .slice A3 n3 c3]
theorem IsWA.ag5 {w : World} {k : Nat} {v : Value} {a : WA} (h : IsWA w k v a) : Ag5 v := by
 obtain ⟨A1, c1, A2, c2, A3, c3, rfl, -⟩ := h
 exact ⟨_, _, _, _, _, _, _, _, _, _, _, rfl⟩
theorem ag5_zero : Ag5 (.agg zero25) := ⟨_, _, _, _, _, _, _, _, _, _, _, rfl⟩
theorem refBoth_any {vA vB : Value} {a b : WA} {w : World} (hA : IsWA w w.heap.size vA a) (hB : IsWA w w.heap.size vB b) :
  Calls Tryz.prog 64 #[vA, vB] w (Ret fun r w' => r = .int .i64 (errno (a.both b)) ∧ Below w.heap.size w w') := by
 have hAH := hide hA
 have hBH := hide hB
 obtain ⟨A1, c1, A2, c2, A3, c3, rfl, -⟩ := hA
 obtain ⟨B1, d1, B2, d2, B3, d3, rfl, -⟩ := hB
 obtain ⟨w1, hw1, hb1, hB1, -⟩ := box_blk w #[.int .i64 a.letters, .int .i64 a.states, .slice A1 a.start.length c1, .slice A2 a.accept.length c2, .slice A3 a.edges.length c3] 28
 obtain ⟨w2, hw2, hb2, hB2, -⟩ := box_blk w1 #[.int .i64 b.letters, .int .i64 b.states, .slice B1 b.start.length d1, .slice B2 b.accept.length d2, .slice B3 b.edges.length d3] 28
 have s1 := hb1.size
 have b02 := hide (hb1.trans (hb2.mono s1))
 have hX2 := hide (hB1.below hb2)
 have hY2 := hide hB2
 have fx := hX2.out.cell
 have fy := hY2.out.cell
 have hva := refValidate_any (hAH.out.keep (w' := w2) (fun p hp => b02.out.cell hp) b02.out.size)
 have hvb := hide (fun (wx : World) (hb : Below w.heap.size w wx) => refValidate_any (hBH.out.keep (w' := wx) (fun p hp => hb.cell hp) hb.size))
 have hbI := hide (WA.both_iff (a := a) (b := b))
 clear hb1 hB1 hb2 hB2
 go_enter Tryz.func64, Tryz.ntmps64
 go_wp2_with fail
 refine Calls.ret hva ?_
 rintro r w3 ⟨rfl, hb3⟩
 have b03 := hide (b02.out.trans (hb3.mono b02.out.size))
 have hX3 := hide (hX2.out.below hb3)
 have hY3 := hide (hY2.out.below hb3)
 have gx := hX3.out.cell
 have gy := hY3.out.cell
 clear hva hb3 fx fy
 cases aok : a.ok with
 | false =>
  have hR : Hid (a.both b = false) := by show _ = _; unfold WA.both; rw [aok]; rfl
  rw [show errno false = 1 from rfl]
  clear aok
  go_wp2_with fail
  go_ret
  exact ⟨by rw [hR.out]; rfl, b03.out⟩
 | true =>
  rw [show errno true = 0 from rfl]
  have aokH := hide aok
  have hcall := hvb.out w3 b03.out
  clear aok
  go_wp2_with fail
  refine Calls.ret hcall ?_
  rintro r w4 ⟨rfl, hb4⟩
  have b04 := hide (b03.out.trans (hb4.mono b03.out.size))
  have hX4 := hide (hX3.out.below hb4)
  have hY4 := hide (hY3.out.below hb4)
  have kx := hX4.out.cell
  have ky := hY4.out.cell
  clear hcall hb4 gx gy
  cases bok : b.ok with
  | false =>
   have hR : Hid (a.both b = false) := by
    show _ = _
    rcases h : a.both b with _ | _
    ·rfl
    ·rw [(hbI.out.1 h).2.1] at bok; cases bok
   rw [show errno false = 1 from rfl]
   clear bok
   go_wp2_with fail
   go_ret
   exact ⟨by rw [hR.out]; rfl, b04.out⟩
  | true =>
   rw [show errno true = 0 from rfl]
   have bokH := hide bok
   clear bok
   by_cases hLe : a.letters = b.letters
   ·have hR := hide (hbI.out.2 ⟨aokH.out, bokH.out, hLe.symm⟩)
    rw [hLe] at kx hX4
    clear hLe
    go_wp2_with fail
    go_ret
    exact ⟨by rw [hR.out]; rfl, b04.out⟩
   ·have hR : Hid (a.both b = false) := by
     show _ = _
     rcases h : a.both b with _ | _
     ·rfl
     ·exact (hLe (hbI.out.1 h).2.2.symm).elim
    have hne : (a.letters == b.letters) = false := by simpa using hLe
    go_wp2_with fail
    go_ret
    exact ⟨by rw [hR.out]; rfl, b04.out⟩
theorem RefMinRet.split {w w' : World} {a : WA} {r : Value} (h : RefMinRet w a r w') : Below w.heap.size w w' ∧ ∃ (d : Value) (e : Int), Ag5 d ∧ r = .tuple #[d, .int .i64 e] ∧ ((a.nf.Large 400 ∧ e = 4) ∨ (¬ a.nf.Large 400 ∧ e = 0)) ∧
  (e = 0 → ∃ t ac, CanT a.L t ac a.lang ∧ ac.length ≤ 400 ∧ ∀ w'', Kept w' w'' (fun k => k < w.heap.size) → IsWA w'' w''.heap.size d (plainW a.L t ac)) := by
 obtain ⟨hb, ⟨h1, rfl⟩ | ⟨h1, t, ac, d, hC, hac, rfl, hI⟩⟩ := h
 ·exact ⟨hb, _, 4, ag5_zero, rfl, .inl ⟨h1, rfl⟩, fun h => by omega⟩
 ·exact ⟨hb, d, 0, (hI w' (Kept.refl _ _)).ag5, rfl, .inr ⟨h1, rfl⟩, fun _ => ⟨t, ac, hC, hac, hI⟩⟩
def RPair (w : World) (a b : WA) (r : Value) (w' : World) : Prop :=
 Below w.heap.size w w' ∧ ∃ (x y : Value) (e : Int), Ag5 x ∧ Ag5 y ∧ r = .tuple #[x, y, .int .i64 e] ∧ pErr a b e ∧
  (e = 0 → ∃ t ac u bc, CanT a.L t ac a.lang ∧ CanT b.L u bc b.lang ∧ ac.length ≤ 400 ∧ bc.length ≤ 400 ∧ ∀ w'', Kept w' w'' (fun k => k < w.heap.size) → IsWA w'' w''.heap.size x (plainW a.L t ac) ∧ IsWA w'' w''.heap.size y (plainW b.L u bc))
theorem run_load28 {w : World} {g : Nat} {u0 u1 u2 u3 u4 : Value} (h0 : w.cell? ⟨g, 0, none⟩ = some u0) (h1 : w.cell? ⟨g, 1, none⟩ = some u1) (h2 : w.cell? ⟨g, 2, none⟩ = some u2) (h3 : w.cell? ⟨g, 3, none⟩ = some u3) (h4 : w.cell? ⟨g, 4, none⟩ = some u4) :
  (Instr.loadAt 28 (.pointer (some ⟨g, 0, none⟩))).run Tryz.prog w = .ok (.agg #[u0, u1, u2, u3, u4]) w := by
 simp [go_sem, h0, h1, h2, h3, h4]
theorem same_load28 {ops : Array Oper} {q : Oper} {b : Act} {w w' : World} {x : Operand} {g : Nat} {u0 u1 u2 u3 u4 : Value} (ho : q.op = .load 28 x) (hx : b.eval x = .pointer (some ⟨g, 0, none⟩))
  (h : ∀ i, w.cell? ⟨g, i, none⟩ = #[u0, u1, u2, u3, u4][i]?) (h' : ∀ i, w'.cell? ⟨g, i, none⟩ = #[u0, u1, u2, u3, u4][i]?) : Reg.Same Tryz.prog ops q b w w' := by
 intro _ v hv
 obtain ⟨dst, op, type, pos, after, guard⟩ := q
 dsimp only at ho
 subst ho
 have e : ∀ w1, (∀ i, w1.cell? ⟨g, i, none⟩ = #[u0, u1, u2, u3, u4][i]?) → (execOp b.eval { dst, op := .load 28 x, type, pos, after, guard }).run Tryz.prog w1 = .ok (.value (.agg #[u0, u1, u2, u3, u4])) w1 := fun w1 h => by
  show ((Instr.loadAt 28 (b.eval x)) >>= fun v => (Pure.pure (Next.value v) : Sem Next)).run Tryz.prog w1 = _
  rw [hx]
  exact Reg.run_value (run_load28 (h 0) (h 1) (h 2) (h 3) (h 4))
 rw [e w h] at hv
 injection hv with hv _
 rw [← hv]
 exact e w' h'
end Go.Proofs.YtakpmdmjbgipiaaGreatDoor
namespace Go.Proofs.YtakpmdmjbgipiaaGreatDoor
open Go.RowKit
set_option maxHeartbeats 16000000
set_option maxRecDepth 100000
theorem two_set {w : World} {g4 g5 : Nat} (h4 : Blk w g4 28 zero25) (h5 : Blk w g5 28 zero25) (hne : g4 ≠ g5) (x0 x1 x2 x3 x4 y0 y1 y2 y3 y4 : Value) : ∃ wC wD, set5 w g4 x0 x1 x2 x3 x4 = wC ∧ set5 wC g5 y0 y1 y2 y3 y4 = wD ∧ Blk wC g5 28 zero25 ∧ Blk wD g4 28 #[x0, x1, x2, x3, x4] ∧ Blk wD g5 28 #[y0, y1, y2, y3, y4] ∧ Kept w wD (fun k => k = g4 ∨ k = g5) ∧ Kept w wC (fun k => k = g4) := by
 obtain ⟨wC, hwC, hBC, hKC⟩ := set5_facts h4 x0 x1 x2 x3 x4
 have h5C := h5.kept hKC (fun e => hne e.symm)
 obtain ⟨wD, hwD, hBD, hKD⟩ := set5_facts h5C y0 y1 y2 y3 y4
 exact ⟨wC, wD, hwC, hwD, h5C, hBC.kept hKD hne, hBD, (hKC.mono fun _ _ e => .inl e).trans hKD fun _ _ e => .inr e, hKC⟩
theorem box5 (w : World) (x0 x1 : Int) (A1 : Option Addr) (n1 c1 : Nat) (A2 : Option Addr) (n2 c2 : Nat) (A3 : Option Addr) (n3 c3 : Nat) : ∃ w6, w.alloc (.cells #[.int .i64 x0, .int .i64 x1, .slice A1 n1 c1, .slice A2 n2 c2, .slice A3 n3 c3] 28) = w6 ∧ Below w.heap.size w w6 ∧ Blk w6 w.heap.size 28 #[.int .i64 x0, .int .i64 x1, .slice A1 n1 c1, .slice A2 n2 c2, .slice A3 n3 c3] := by
 obtain ⟨w6, hw6, hb6, hB6, -⟩ := box_blk w #[.int .i64 x0, .int .i64 x1, .slice A1 n1 c1, .slice A2 n2 c2, .slice A3 n3 c3] 28
 exact ⟨w6, hw6, hb6, hB6⟩
theorem refPair_any {vA vB : Value} {a b : WA} {w : World} (hA : IsWA w w.heap.size vA a) (hB : IsWA w w.heap.size vB b) :
  Calls Tryz.prog 38 #[vA, vB] w (Ret fun r w' => RPair w a b r w') := by
 have hAH := hide hA
 have hBH := hide hB
 obtain ⟨A1, c1, A2, c2, A3, c3, rfl, -⟩ := hA
 obtain ⟨B1, d1, B2, d2, B3, d3, rfl, -⟩ := hB
 obtain ⟨w1, hw1, hb1, hB1, -⟩ := box_blk w #[.int .i64 a.letters, .int .i64 a.states, .slice A1 a.start.length c1, .slice A2 a.accept.length c2, .slice A3 a.edges.length c3] 28
 obtain ⟨w2, hw2, hb2, hB2, -⟩ := box_blk w1 #[.int .i64 b.letters, .int .i64 b.states, .slice B1 b.start.length d1, .slice B2 b.accept.length d2, .slice B3 b.edges.length d3] 28
 obtain ⟨w3, hw3, hb3, hB3, -⟩ := box_blk w2 zero25 28
 obtain ⟨w4, hw4, hb4, hB4, -⟩ := box_blk w3 zero25 28
 have s1 := hb1.size
 have s2 := hb2.size
 have s3 := hb3.size
 have l1 := hB1.lt
 have l2 := hB2.lt
 have l3 := hB3.lt
 have l4 := hB4.lt
 have b24 := hb3.trans (hb4.mono s3)
 have b14 := hb2.trans (b24.mono s2)
 have b04 := hide (hb1.trans (b14.mono s1))
 have hX4 := hide (hB1.below b14)
 have hY4 := hide (hB2.below b24)
 have hR4 := hide (hB3.below hb4)
 have hS4 := hide hB4
 have hg45 := hide (show w2.heap.size ≠ w3.heap.size from by omega)
 have fx := hX4.out.cell
 have fy := hY4.out.cell
 have hbo := refBoth_any (hAH.out.keep (w' := w4) (fun p hp => b04.out.cell hp) b04.out.size) (hBH.out.keep (w' := w4) (fun p hp => b04.out.cell hp) b04.out.size)
 clear hb1 hb2 hb3 hb4 hB1 hB2 hB3 hB4 b24 b14
 go_enter Tryz.func38, Tryz.ntmps38
 go_wp2_with fail
 refine Calls.ret hbo ?_
 rintro r w5 ⟨rfl, hb5⟩
 have b05 := hide (b04.out.trans (hb5.mono b04.out.size))
 have s4 := b04.out.size
 have s45 := hb5.size
 have hX5 := hide (hX4.out.below hb5)
 have hY5 := hide (hY4.out.below hb5)
 have hx5 := hide (hR4.out.below hb5)
 have hy5 := hide (hS4.out.below hb5)
 have b0w5 := b05
 have hxw5 := hx5
 have hyw5 := hy5
 clear hbo hb5 fx fy
 rcases hbb : a.both b with _ | _
 ·have hpe : Hid (pErr a b 1) := hide (.inl ⟨hbb, rfl⟩)
  rw [show errno false = 1 from rfl]
  clear hbb
  obtain ⟨wC, wD, hwC, hwD, hyC, hxD, hyD, hKD, hKC⟩ := two_set hxw5.out hyw5.out hg45.out (.int .i64 a.letters) (.int .i64 a.states) (.slice A1 a.start.length c1) (.slice A2 a.accept.length c2) (.slice A3 a.edges.length c3) (.int .i64 b.letters) (.int .i64 b.states) (.slice B1 b.start.length d1) (.slice B2 b.accept.length d2) (.slice B3 b.edges.length d3)
  have sC := hKC.size
  have hxd := hxw5.out.below (drewB w5)
  have f1 := hxd.frozen
  have f2 := hxd.lt
  have f3 := hxd.cell
  have p1 := hxw5.out.frozen
  have p2 := hxw5.out.lt
  have p3 := hxw5.out.cell
  have hsxd := hide (hX5.out.below (drewB w5))
  have hsyd := hide (hY5.out.below (drewB w5))
  have e1 := hsxd.out.cell
  have e2 := hsyd.out.cell
  have hsyC := hide (((hY5.out.kept hKC (by omega)).below (drewB wC)))
  have hyCd := hyC.below (drewB wC)
  have g1 := hyC.frozen
  have g2 := hyC.lt
  have g3 := hyC.cell
  have k1 := hyCd.frozen
  have k2 := hyCd.lt
  have k3 := hyCd.cell
  have m1 := (hxD.below (drewB wD)).cell
  have m2 := (hyD.below (drewB wD)).cell
  have m3 := hxD.cell
  have m4 := hyD.cell
  have hKall : Kept w5 wD.drew (fun k => k = w2.heap.size ∨ k = w3.heap.size) := hKD.trans (Kept.of_below (drewB wD) (fun _ => False)) fun _ _ e => e.elim
  have hbF := hide (b0w5.out.trans (hKall.below b0w5.out.size fun b hb e => by omega))
  have hKaH := hide hKall
  unfold set5 at hwC hwD
  clear hyC hxD hyD hKD hKC hxd hyCd hKall
  go_wp2_with fail
  refine Reg.cC [0, 0, 0, 1, 11, 31] [0, 1, 2, 3, 4, 5] ?_
  refine Reg.rest_walk' [0, 1, 2] [3, 4, 5] rfl (by kernel_rfl) ?_
  intro Qf hQf
  go_wp2_with fail
  first | refine hQf _ _ ?_ | skip
  try clear hQf
  refine Reg.rest_act' 3 [4, 5] [1] rfl (by kernel_rfl) ?_
  intro Qf hQf
  simp only [gT, gS, gZ]
  go_wp2_with fail
  first | refine hQf _ _ ⟨?_, ?_⟩ | refine ⟨?_, ?_⟩
  ·intro z hz q hq
   simp only [List.mem_singleton] at hz
   subst hz
   injection hq with hq
   subst hq
   exact same_load28 rfl rfl hsyd.out.cell hsyC.out.cell
  try clear hQf
  refine Reg.rest_act' 4 [5] [] rfl (by kernel_rfl) ?_
  intro Qf hQf
  simp only [gT, gS, gZ]
  go_wp2_with fail
  first | refine hQf _ _ ⟨Reg.nm, ?_⟩ | refine ⟨Reg.nm, ?_⟩
  try clear hQf
  refine Reg.rest_walk' [5] [] rfl (by kernel_rfl) ?_
  intro Qf hQf
  go_wp2_with fail
  first | refine hQf _ _ ?_ | skip
  try clear hQf
  refine Reg.rest_end ?_
  go_wp2_with fail
  refine bodyPost_ret (v := .tuple #[.agg #[.int .i64 a.letters, .int .i64 a.states, .slice A1 a.start.length c1, .slice A2 a.accept.length c2, .slice A3 a.edges.length c3], .agg #[.int .i64 b.letters, .int .i64 b.states, .slice B1 b.start.length d1, .slice B2 b.accept.length d2, .slice B3 b.edges.length d3], .int .i64 1]) (by simp [results, Tryz.results38, go_sem, m1, m2]) rfl ?_
  exact ⟨hbF.out, _, _, 1, ⟨_, _, _, _, _, _, _, _, _, _, _, rfl⟩, ⟨_, _, _, _, _, _, _, _, _, _, _, rfl⟩, rfl, hpe.out, fun h => absurd h (by decide)⟩
 ·rw [show errno true = 0 from rfl]
  obtain ⟨oka, okb, hle⟩ := WA.both_iff.1 hbb
  obtain ⟨oa, hina⟩ := WA.ok_iff.1 oka
  obtain ⟨ob, hinb⟩ := WA.ok_iff.1 okb
  have hbbH := hide hbb
  have hma := refminimal_any (hAH.out.keep (w' := w5) (fun p hp => b05.out.cell hp) b05.out.size) hina ⟨by omega, by omega⟩ ⟨by omega, by omega⟩
  have hmb := hide (fun (wx : World) (hb : Below w.heap.size w wx) => refminimal_any (hBH.out.keep (w' := wx) (fun p hp => hb.cell hp) hb.size) hinb ⟨by omega, by omega⟩ ⟨by omega, by omega⟩)
  have gx := hX5.out.cell
  clear hbb oka okb hle oa hina ob hinb
  go_wp2_with fail
  refine Calls.ret hma ?_
  intro r w6 hret
  obtain ⟨hb6, d, e, ⟨x0, x1, xA1, xn1, xc1, xA2, xn2, xc2, xA3, xn3, xc3, rfl⟩, rfl, hce, hok⟩ := hret.split
  obtain ⟨w7, hw7, hb7, hB7⟩ := box5 w6 x0 x1 xA1 xn1 xc1 xA2 xn2 xc2 xA3 xn3 xc3
  have b57 := hb6.trans (hb7.mono hb6.size)
  have s56 := hb6.size
  have s67 := hb7.size
  have b0w7 := hide (b05.out.trans (b57.mono b05.out.size))
  have s05 := b05.out.size
  have hX7 := hide (hX5.out.below b57)
  have hY7 := hide (hY5.out.below b57)
  have hxw7 := hide (hx5.out.below b57)
  have hyw7 := hide (hy5.out.below b57)
  have hM7 := hide hB7
  have hokH := hide hok
  have hceH := hide hce
  have hlx := hx5.out.lt
  have hly := hy5.out.lt
  have hb67 := hide hb7
  clear hma hret hb6 hb7 hB7 b57 gx hok hce
  by_cases hz : e = 0
  ·subst hz
   have hla : Hid (¬ a.nf.Large 400) := hide (hceH.out.elim (fun h => absurd h.2 (by decide)) fun h => h.1)
   have hcall := hmb.out w7 b0w7.out
   have gy := hY7.out.cell
   go_wp2_with fail
   refine Calls.ret hcall ?_
   intro r w8 hret
   obtain ⟨hb8, d', e, ⟨y0, y1, yA1, yn1, yc1, yA2, yn2, yc2, yA3, yn3, yc3, rfl⟩, rfl, hce, hok⟩ := hret.split
   obtain ⟨w9, hw9, hb9, hB9⟩ := box5 w8 y0 y1 yA1 yn1 yc1 yA2 yn2 yc2 yA3 yn3 yc3
   have b79 := hb8.trans (hb9.mono hb8.size)
   have b0w9 := hide (b0w7.out.trans (b79.mono b0w7.out.size))
   have s78 := hb8.size
   have s89 := hb9.size
   have hxw9 := hide (hxw7.out.below b79)
   have hyw9 := hide (hyw7.out.below b79)
   have hM9 := hide (hM7.out.below b79)
   have hN9 := hide hB9
   have hlm := hM7.out.lt
   have hpe : Hid (pErr a b e) := hide (hce.elim (fun h => .inr (.inl ⟨hbbH.out, .inr h.1, h.2⟩)) fun h => .inr (.inr ⟨hbbH.out, hla.out, h.1, h.2⟩))
   have hfin : Hid (e = 0 → ∃ t ac u bc, CanT a.L t ac a.lang ∧ CanT b.L u bc b.lang ∧ ac.length ≤ 400 ∧ bc.length ≤ 400 ∧ ∀ w'', Kept w9 w'' (fun k => k < w5.heap.size) → IsWA w'' w''.heap.size (.agg #[.int .i64 x0, .int .i64 x1, .slice xA1 xn1 xc1, .slice xA2 xn2 xc2, .slice xA3 xn3 xc3]) (plainW a.L t ac) ∧ IsWA w'' w''.heap.size (.agg #[.int .i64 y0, .int .i64 y1, .slice yA1 yn1 yc1, .slice yA2 yn2 yc2, .slice yA3 yn3 yc3]) (plainW b.L u bc)) := hide fun h0 => by
    obtain ⟨t, ac, hC, hac, hI⟩ := hokH.out (by trivial)
    obtain ⟨u, bc, hD, hbc, hJ⟩ := hok h0
    exact ⟨t, ac, u, bc, hC, hD, hac, hbc, fun w'' hk => And.intro (hI w'' (((Kept.of_below hb67.out (fun k => k < w5.heap.size)).trans (Kept.of_below b79 (fun k => k < w5.heap.size)) fun _ _ e => e).trans hk fun _ _ e => e)) (hJ w'' ((Kept.of_below hb9 (fun k => k < w7.heap.size)).trans hk fun b _ h => by omega))⟩
   clear hcall hret hb8 hb9 hB9 b79 gy hok hce
   obtain ⟨wC, wD, hwC, hwD, hyC, hxD, hyD, hKD, hKC⟩ := two_set hxw9.out hyw9.out hg45.out (.int .i64 x0) (.int .i64 x1) (.slice xA1 xn1 xc1) (.slice xA2 xn2 xc2) (.slice xA3 xn3 xc3) (.int .i64 y0) (.int .i64 y1) (.slice yA1 yn1 yc1) (.slice yA2 yn2 yc2) (.slice yA3 yn3 yc3)
   have sC := hKC.size
   have hxd := hxw9.out.below (drewB w9)
   have f1 := hxd.frozen
   have f2 := hxd.lt
   have f3 := hxd.cell
   have p1 := hxw9.out.frozen
   have p2 := hxw9.out.lt
   have p3 := hxw9.out.cell
   have hsxd := hide (hM9.out.below (drewB w9))
   have hsyd := hide (hN9.out.below (drewB w9))
   have e1 := hsxd.out.cell
   have e2 := hsyd.out.cell
   have hsyC := hide (((hN9.out.kept hKC (by omega)).below (drewB wC)))
   have hyCd := hyC.below (drewB wC)
   have g1 := hyC.frozen
   have g2 := hyC.lt
   have g3 := hyC.cell
   have k1 := hyCd.frozen
   have k2 := hyCd.lt
   have k3 := hyCd.cell
   have m1 := (hxD.below (drewB wD)).cell
   have m2 := (hyD.below (drewB wD)).cell
   have m3 := hxD.cell
   have m4 := hyD.cell
   have hKall : Kept w9 wD.drew (fun k => k = w2.heap.size ∨ k = w3.heap.size) := hKD.trans (Kept.of_below (drewB wD) (fun _ => False)) fun _ _ e => e.elim
   have hbF := hide (b0w9.out.trans (hKall.below b0w9.out.size fun b hb e => by omega))
   have hKaH := hide hKall
   unfold set5 at hwC hwD
   clear hyC hxD hyD hKD hKC hxd hyCd hKall
   go_wp2_with fail
   refine Reg.cC [0, 0, 0, 1, 11, 31] [0, 1, 2, 3, 4, 5] ?_
   refine Reg.rest_walk' [0, 1, 2] [3, 4, 5] rfl (by kernel_rfl) ?_
   intro Qf hQf
   go_wp2_with fail
   first | refine hQf _ _ ?_ | skip
   try clear hQf
   refine Reg.rest_act' 3 [4, 5] [1] rfl (by kernel_rfl) ?_
   intro Qf hQf
   simp only [gT, gS, gZ]
   go_wp2_with fail
   first | refine hQf _ _ ⟨?_, ?_⟩ | refine ⟨?_, ?_⟩
   ·intro z hz q hq
    simp only [List.mem_singleton] at hz
    subst hz
    injection hq with hq
    subst hq
    exact same_load28 rfl rfl hsyd.out.cell hsyC.out.cell
   try clear hQf
   refine Reg.rest_act' 4 [5] [] rfl (by kernel_rfl) ?_
   intro Qf hQf
   simp only [gT, gS, gZ]
   go_wp2_with fail
   first | refine hQf _ _ ⟨Reg.nm, ?_⟩ | refine ⟨Reg.nm, ?_⟩
   try clear hQf
   refine Reg.rest_walk' [5] [] rfl (by kernel_rfl) ?_
   intro Qf hQf
   go_wp2_with fail
   first | refine hQf _ _ ?_ | skip
   try clear hQf
   refine Reg.rest_end ?_
   go_wp2_with fail
   refine bodyPost_ret (v := .tuple #[.agg #[.int .i64 x0, .int .i64 x1, .slice xA1 xn1 xc1, .slice xA2 xn2 xc2, .slice xA3 xn3 xc3], .agg #[.int .i64 y0, .int .i64 y1, .slice yA1 yn1 yc1, .slice yA2 yn2 yc2, .slice yA3 yn3 yc3], .int .i64 e]) (by simp [results, Tryz.results38, go_sem, m1, m2]) rfl ?_
   refine ⟨hbF.out, _, _, e, ⟨_, _, _, _, _, _, _, _, _, _, _, rfl⟩, ⟨_, _, _, _, _, _, _, _, _, _, _, rfl⟩, rfl, hpe.out, fun h => ?_⟩
   obtain ⟨t, ac, u, bc, hC, hD, hac, hbc, hI⟩ := hfin.out h
   exact ⟨t, ac, u, bc, hC, hD, hac, hbc, fun w'' hk => hI w'' ((hKaH.out.mono fun b _ e => by omega).trans hk fun b h1 h2 => by omega)⟩
  ·have hpe : Hid (pErr a b e) := hide (hceH.out.elim (fun h => .inr (.inl ⟨hbbH.out, .inl h.1, h.2⟩)) fun h => absurd h.2 hz)
   have hz2 : (e == 0) = false := by simpa using hz
   have hzH := hide hz
   obtain ⟨wC, wD, hwC, hwD, hyC, hxD, hyD, hKD, hKC⟩ := two_set hxw7.out hyw7.out hg45.out (.int .i64 a.letters) (.int .i64 a.states) (.slice A1 a.start.length c1) (.slice A2 a.accept.length c2) (.slice A3 a.edges.length c3) (.int .i64 b.letters) (.int .i64 b.states) (.slice B1 b.start.length d1) (.slice B2 b.accept.length d2) (.slice B3 b.edges.length d3)
   have sC := hKC.size
   have hxd := hxw7.out.below (drewB w7)
   have f1 := hxd.frozen
   have f2 := hxd.lt
   have f3 := hxd.cell
   have p1 := hxw7.out.frozen
   have p2 := hxw7.out.lt
   have p3 := hxw7.out.cell
   have hsxd := hide (hX7.out.below (drewB w7))
   have hsyd := hide (hY7.out.below (drewB w7))
   have e1 := hsxd.out.cell
   have e2 := hsyd.out.cell
   have hsyC := hide (((hY7.out.kept hKC (by omega)).below (drewB wC)))
   have hyCd := hyC.below (drewB wC)
   have g1 := hyC.frozen
   have g2 := hyC.lt
   have g3 := hyC.cell
   have k1 := hyCd.frozen
   have k2 := hyCd.lt
   have k3 := hyCd.cell
   have m1 := (hxD.below (drewB wD)).cell
   have m2 := (hyD.below (drewB wD)).cell
   have m3 := hxD.cell
   have m4 := hyD.cell
   have hKall : Kept w7 wD.drew (fun k => k = w2.heap.size ∨ k = w3.heap.size) := hKD.trans (Kept.of_below (drewB wD) (fun _ => False)) fun _ _ e => e.elim
   have hbF := hide (b0w7.out.trans (hKall.below b0w7.out.size fun b hb e => by omega))
   have hKaH := hide hKall
   unfold set5 at hwC hwD
   clear hyC hxD hyD hKD hKC hxd hyCd hKall
   go_wp2_with fail
   refine Reg.cC [0, 0, 0, 1, 11, 31] [0, 1, 2, 3, 4, 5] ?_
   refine Reg.rest_walk' [0, 1, 2] [3, 4, 5] rfl (by kernel_rfl) ?_
   intro Qf hQf
   go_wp2_with fail
   first | refine hQf _ _ ?_ | skip
   try clear hQf
   refine Reg.rest_act' 3 [4, 5] [1] rfl (by kernel_rfl) ?_
   intro Qf hQf
   simp only [gT, gS, gZ]
   go_wp2_with fail
   first | refine hQf _ _ ⟨?_, ?_⟩ | refine ⟨?_, ?_⟩
   ·intro z hz q hq
    simp only [List.mem_singleton] at hz
    subst hz
    injection hq with hq
    subst hq
    exact same_load28 rfl rfl hsyd.out.cell hsyC.out.cell
   try clear hQf
   refine Reg.rest_act' 4 [5] [] rfl (by kernel_rfl) ?_
   intro Qf hQf
   simp only [gT, gS, gZ]
   go_wp2_with fail
   first | refine hQf _ _ ⟨Reg.nm, ?_⟩ | refine ⟨Reg.nm, ?_⟩
   try clear hQf
   refine Reg.rest_walk' [5] [] rfl (by kernel_rfl) ?_
   intro Qf hQf
   go_wp2_with fail
   first | refine hQf _ _ ?_ | skip
   try clear hQf
   refine Reg.rest_end ?_
   go_wp2_with fail
   refine bodyPost_ret (v := .tuple #[.agg #[.int .i64 a.letters, .int .i64 a.states, .slice A1 a.start.length c1, .slice A2 a.accept.length c2, .slice A3 a.edges.length c3], .agg #[.int .i64 b.letters, .int .i64 b.states, .slice B1 b.start.length d1, .slice B2 b.accept.length d2, .slice B3 b.edges.length d3], .int .i64 e]) (by simp [results, Tryz.results38, go_sem, m1, m2]) rfl ?_
   exact ⟨hbF.out, _, _, e, ⟨_, _, _, _, _, _, _, _, _, _, _, rfl⟩, ⟨_, _, _, _, _, _, _, _, _, _, _, rfl⟩, rfl, hpe.out, fun h => absurd h hzH.out⟩
end Go.Proofs.YtakpmdmjbgipiaaGreatDoor
