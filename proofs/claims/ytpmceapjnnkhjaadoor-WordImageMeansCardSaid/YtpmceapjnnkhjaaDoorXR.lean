/-
  Part XR of a proof.
-/
import Derived.Test.YtpmceapjnnkhjaaDoorPA
import Derived.Test.YtpmceapjnnkhjaaDoorXI
import Derived.Test.YtpmceapjnnkhjaaDoorPI
import Derived.Test.YtpmceapjnnkhjaaDoorXQ
import Derived.Test.YtpmceapjnnkhjaaDoorPJ
set_option maxHeartbeats 16000000
set_option maxRecDepth 100000
set_option linter.unusedVariables false
set_option linter.unusedSimpArgs false
namespace Go.Proofs.YtpmceapjnnkhjaaDoor
open Go.RowKit
set_option maxHeartbeats 16000000
set_option maxRecDepth 100000
theorem run_load72 {w : World} {g : Nat} {u0 u1 : Value} (h0 : w.cell? ⟨g, 0, none⟩ = some u0) (h1 : w.cell? ⟨g, 1, none⟩ = some u1) :
  (Instr.loadAt 72 (.pointer (some ⟨g, 0, none⟩))).run Tryd.prog w = .ok (.agg #[u0, u1]) w := by
 simp [go_sem, h0, h1]
theorem same_load72 {ops : Array Oper} {q : Oper} {b : Act} {w w' : World} {x : Operand} {g : Nat} {u0 u1 : Value} (ho : q.op = .load 72 x) (hx : b.eval x = .pointer (some ⟨g, 0, none⟩))
  (h0 : w.cell? ⟨g, 0, none⟩ = some u0) (h1 : w.cell? ⟨g, 1, none⟩ = some u1) (h0' : w'.cell? ⟨g, 0, none⟩ = some u0) (h1' : w'.cell? ⟨g, 1, none⟩ = some u1) : Reg.Same Tryd.prog ops q b w w' := by
 intro _ v hv
 obtain ⟨dst, op, type, pos, after, guard⟩ := q
 dsimp only at ho
 subst ho
 have e : ∀ w1, w1.cell? ⟨g, 0, none⟩ = some u0 → w1.cell? ⟨g, 1, none⟩ = some u1 → (execOp b.eval { dst, op := .load 72 x, type, pos, after, guard }).run Tryd.prog w1 = .ok (.value (.agg #[u0, u1])) w1 := fun w1 h0 h1 => by
  show ((Instr.loadAt 72 (b.eval x)) >>= fun v => (Pure.pure (Next.value v) : Sem Next)).run Tryd.prog w1 = _
  rw [hx]
  exact Reg.run_value (run_load72 h0 h1)
 rw [e w h0 h1] at hv
 injection hv with hv _
 rw [← hv]
 exact e w' h0' h1'
def Sl0 (v : Value) : Prop := ∃ A n c, v = .slice A n c
def PairRet (w : World) (a b : WA) (v : Value) (w' : World) : Prop :=
 Below w.heap.size w w' ∧ ((a.both b = false ∧ v = .tuple #[.agg #[sn0, sn0], .agg #[sn0, sn0], .int .i64 1]) ∨
  (a.both b = true ∧ (a.nf.Large 400 ∨ b.nf.Large 400) ∧ ∃ x0 x1 y0 y1, Sl0 x0 ∧ Sl0 x1 ∧ Sl0 y0 ∧ Sl0 y1 ∧ v = .tuple #[.agg #[x0, x1], .agg #[y0, y1], .int .i64 4]) ∨
  (a.both b = true ∧ ¬ a.nf.Large 400 ∧ ¬ b.nf.Large 400 ∧ ∃ t ac u bc x0 x1 y0 y1, CanT a.L t ac a.lang ∧ CanT b.L u bc b.lang ∧ ac.length ≤ 400 ∧ bc.length ≤ 400 ∧ v = .tuple #[.agg #[x0, x1], .agg #[y0, y1], .int .i64 0] ∧
   ∀ w'', Kept w' w'' (fun k => k < w.heap.size) → IsDF w'' w''.heap.size (.agg #[x0, x1]) t ac ∧ IsDF w'' w''.heap.size (.agg #[y0, y1]) u bc))
theorem WA.both_iff {a b : WA} : a.both b = true ↔ a.ok = true ∧ b.ok = true ∧ b.letters = a.letters := by
 simp [WA.both, Bool.and_eq_true, and_assoc]
theorem pair_any {vA vB : Value} {a b : WA} {w : World} (hA : IsWA w w.heap.size vA a) (hB : IsWA w w.heap.size vB b) (hea : a.edges.length ≤ 3000000) (hsa : a.start.length ≤ 4000000) (heb : b.edges.length ≤ 3000000) (hsb : b.start.length ≤ 4000000) (hT : PowT w) :
  Calls Tryd.prog 83 #[vA, vB] w (Ret fun r w' => PairRet w a b r w') := by
 have hAH := hide hA
 have hBH := hide hB
 have hTH := hide hT
 obtain ⟨A1, c1, A2, c2, A3, c3, rfl, -⟩ := hA
 obtain ⟨B1, d1, B2, d2, B3, d3, rfl, -⟩ := hB
 obtain ⟨w1, hw1, hb1, hB1, hk1⟩ := box_blk w #[.int .i64 a.letters, .int .i64 a.states, .slice A1 a.start.length c1, .slice A2 a.accept.length c2, .slice A3 a.edges.length c3] 25
 obtain ⟨w2, hw2, hb2, hB2, hk2⟩ := box_blk w1 #[.int .i64 b.letters, .int .i64 b.states, .slice B1 b.start.length d1, .slice B2 b.accept.length d2, .slice B3 b.edges.length d3] 25
 obtain ⟨w3, hw3, hb3, hB3, hk3⟩ := box_blk w2 #[sn0, sn0] 72
 obtain ⟨w4, hw4, hb4, hB4, hk4⟩ := box_blk w3 #[sn0, sn0] 72
 obtain ⟨w5, hw5, hb5, hB5, hk5⟩ := box_blk w4 #[.iface 66 (.agg #[.int .i64 a.letters, .int .i64 a.states, .slice A1 a.start.length c1, .slice A2 a.accept.length c2, .slice A3 a.edges.length c3]), .iface 66 (.agg #[.int .i64 b.letters, .int .i64 b.states, .slice B1 b.start.length d1, .slice B2 b.accept.length d2, .slice B3 b.edges.length d3])] 115
 have s1 := hb1.size
 have s2 := hb2.size
 have s3 := hb3.size
 have s4 := hb4.size
 have s5 := hb5.size
 have l1 := hB1.lt
 have l2 := hB2.lt
 have l3 := hB3.lt
 have l4 := hB4.lt
 have b25 : Below w2.heap.size w2 w5 := hb3.trans ((hb4.mono s3).trans (hb5.mono (by omega)))
 have b15 : Below w1.heap.size w1 w5 := hb2.trans (b25.mono s2)
 have b05 := hide (hb1.trans (b15.mono s1))
 have hBa5 := hide (hB1.below b15)
 have hBb5 := hide (hB2.below b25)
 have hBx5 := hide ((hB3.below hb4).below hb5)
 have hBy5 := hide (hB4.below hb5)
 have hc4 := ((hB1.below hb2).below hb3).below hb4
 have hc4' := hc4.cell
 have hd4 := ((hB2.below hb3).below hb4).cell
 have hex := examine_any (c := 2) (hAH.out.keep (w' := w5) (fun p hp => b05.out.cell hp) b05.out.size) (hBH.out.keep (w' := w5) (fun p hp => b05.out.cell hp) b05.out.size) hB5
 clear hk1 hk2 hk3 hk4 hk5 hB1 hB2 hB3 hB4 hB5 hb1 hb2 hb3 hb4 hb5 b25 b15 hT hc4
 go_enter Tryd.func83, Tryd.ntmps83
 go_wp2_with fail
 refine Calls.ret hex ?_
 rintro r w6 ⟨rfl, hb6⟩
 have s6 := hb6.size
 have b06 := hide (b05.out.trans (hb6.mono b05.out.size))
 have hBa6 := hide (hBa5.out.below hb6)
 have hBb6 := hide (hBb5.out.below hb6)
 have hBx6 := hide (hBx5.out.below hb6)
 have hBy6 := hide (hBy5.out.below hb6)
 clear hex hb6 hc4' hd4
 rcases hbo : a.both b with _ | _
 ·have hboH := hide hbo
  rw [show errno false = 1 from rfl]
  clear hbo
  have hx := hBx6.out
  have hy := hBy6.out
  obtain ⟨wA, hwA, hBA, hKA⟩ := set2_facts hx sn0 sn0
  have hy2 := hy.kept hKA (by omega)
  obtain ⟨wB, hwB, hBB, hKB⟩ := set2_facts hy2 sn0 sn0
  have hxB := hBA.kept hKB (by omega)
  have f1 := hx.frozen
  have f2 := hx.lt
  have f3 := hx.cell
  have f4 := hy2.frozen
  have f5 := hy2.lt
  have f6 := hy2.cell
  have f7 := hBB.cell
  have f8 := hxB.cell
  have hbF := hide ((b06.out.trans (hKA.below (by have := b06.out.size; omega) fun b hb e => by omega)).trans (hKB.below (by have := b06.out.size; have := hKA.size; omega) fun b hb e => by omega))
  unfold set2 at hwA hwB
  clear hx hy hy2 hxB hBA hKA hBB hKB
  go_wp2_with fail
  refine bodyPost_ret (v := .tuple #[.agg #[sn0, sn0], .agg #[sn0, sn0], .int .i64 1]) (by simp [results, Tryd.results83, go_sem, f7, f8]) rfl ⟨hbF.out, .inl ⟨hboH.out, rfl⟩⟩
 ·obtain ⟨hoka, hokb, hle⟩ := WA.both_iff.1 hbo
  have hboH := hide hbo
  have hokaH := hide hoka
  have hokbH := hide hokb
  obtain ⟨oa, hina⟩ := WA.ok_iff.1 hoka
  obtain ⟨ob, hinb⟩ := WA.ok_iff.1 hokb
  have hcan := canonical_any (hAH.out.keep (w' := w6) (fun p hp => b06.out.cell hp) b06.out.size) hina ⟨by omega, by omega⟩ ⟨by omega, by omega⟩ hea hsa (hTH.out.below b06.out)
  have hcanb := hide (fun (wx : World) (hb : Below w.heap.size w wx) => canonical_any (hBH.out.keep (w' := wx) (fun p hp => hb.cell hp) hb.size) hinb ⟨by omega, by omega⟩ ⟨by omega, by omega⟩ heb hsb (hTH.out.below hb))
  rw [show errno true = 0 from rfl]
  have hcx := hBa6.out.cell
  clear hbo hoka hokb hle oa ob hina hinb
  go_wp2_with fail
  refine Calls.ret hcan ?_
  rintro r w7 ⟨hb7, hcase⟩
  have s7 := hb7.size
  have b07 := hide (b06.out.trans (hb7.mono b06.out.size))
  have hBb7 := hide (hBb6.out.below hb7)
  have hx := hBx6.out.below hb7
  have hy := hBy6.out.below hb7
  clear hcan hb7 hcx
  rcases hcase with ⟨hLg, rfl⟩ | ⟨hLg, t, ac, dA, hC, hac, rfl, hdA⟩
  ·have hLgH := hide hLg
   obtain ⟨wA, hwA, hBA, hKA⟩ := set2_facts hx sn0 sn0
   obtain ⟨wB, hwB, hBB, hKB⟩ := set2_facts hBA sn0 sn0
   have hy2 := (hy.kept hKA (by omega)).kept hKB (by omega)
   obtain ⟨wC, hwC, hBC, hKC⟩ := set2_facts hy2 sn0 sn0
   have hxC := hBB.kept hKC (by omega)
   have f1 := hx.frozen
   have f2 := hx.lt
   have f3 := hx.cell
   have f1' := hBA.frozen
   have f2' := hBA.lt
   have f3' := hBA.cell
   have f4 := hy2.frozen
   have f5 := hy2.lt
   have f6 := hy2.cell
   have f7 := hBC.cell
   have f8 := hxC.cell
   have bs := b07.out.size
   have hbF := hide (((b07.out.trans (hKA.below (by omega) fun b hb e => by omega)).trans (hKB.below (by have := hKA.size; omega) fun b hb e => by omega)).trans (hKC.below (by have := hKA.size; have := hKB.size; omega) fun b hb e => by omega))
   unfold set2 at hwA hwB hwC
   clear hx hy hy2 hxC hBA hKA hBB hKB hBC hKC hLg
   go_wp2_with fail
   refine bodyPost_ret (v := .tuple #[.agg #[sn0, sn0], .agg #[sn0, sn0], .int .i64 4]) (by simp [results, Tryd.results83, go_sem, f7, f8]) rfl ⟨hbF.out, .inr (.inl ⟨hboH.out, .inl hLgH.out, _, _, _, _, ⟨_, _, _, rfl⟩, ⟨_, _, _, rfl⟩, ⟨_, _, _, rfl⟩, ⟨_, _, _, rfl⟩, rfl⟩)⟩
  ·obtain ⟨P1, p1, P2, p2, rfl, -, -⟩ := hdA w7 (Kept.refl _ _)
   obtain ⟨lt, hxa⟩ : ∃ lt, lt = t.length := ⟨_, rfl⟩
   obtain ⟨la, hxb⟩ : ∃ la, la = ac.length := ⟨_, rfl⟩
   rw [← hxa, ← hxb] at hdA ⊢
   have hdAH := hide hdA
   have hLgH := hide hLg
   have hCH := hide hC
   have hacH := hide hac
   obtain ⟨wA, hwA, hBA, hKA⟩ := set2_facts hx (.slice P1 lt p1) (.slice P2 la p2)
   have hyA := hy.kept hKA (by omega)
   have f1 := hx.frozen
   have f2 := hx.lt
   have f3 := hx.cell
   have bs := b07.out.size
   have b0A := hide (b07.out.trans (hKA.below (by omega) fun b hb e => by omega))
   have hcan2 := hcanb.out wA b0A.out
   have hcb := (hBb7.out.kept hKA (by omega)).cell
   have hwAH := hide hwA
   have sA := hKA.size
   have hKAH := hide hKA
   have hBAH := hide hBA
   have hyAH := hide hyA
   unfold set2 at hwA
   clear hdA hLg hC hac hx hy hBA hKA hyA hxa hxb
   go_wp2_with fail
   refine Calls.ret hcan2 ?_
   rintro r w8 ⟨hb8, hcase⟩
   have s8 := hb8.size
   have b08 := hide (b0A.out.trans (hb8.mono b0A.out.size))
   have bs8 := b08.out.size
   rcases hcase with ⟨hLg2, rfl⟩ | ⟨hLg2, u, bc, dB, hC2, hbc, rfl, hdB⟩
   ·have hLg2H := hide hLg2
    have hx8 := hBAH.out.below (hb8.mono (Nat.le_refl _))
    have hy8 := hyAH.out.below (hb8.mono (Nat.le_refl _))
    obtain ⟨wB, hwB, hBB, hKB⟩ := set2_facts hy8 sn0 sn0
    have hxB := hx8.kept hKB (by omega)
    have hxd := hxB.below (drewB wB)
    have hyd := hBB.below (drewB wB)
    obtain ⟨wC, hwC, hBC, hKC⟩ := set2_facts hxB (.slice P1 lt p1) (.slice P2 la p2)
    have hyC := hBB.kept hKC (by omega)
    obtain ⟨wD, hwD, hBD, hKD⟩ := set2_facts hyC sn0 sn0
    have hxD := (hBC.kept hKD (by omega)).below (drewB wD)
    have hyD := hBD.below (drewB wD)
    have sB := hKB.size
    have sC := hKC.size
    have sd := (drewB wB).size
    have f1 := hy8.frozen
    have f2 := hy8.lt
    have f3 := hy8.cell
    have g1 := hxd.frozen
    have g2 := hxd.lt
    have g3 := hxd.cell
    have e1 := hBB.cell
    have e2 := hxB.cell
    have e4 := hxB.frozen
    have e5 := hxB.lt
    have e3 := hyd.cell
    have e6 := (hyC.below (drewB wC)).cell
    have k1 := hyC.frozen
    have k2 := hyC.lt
    have k3 := hyC.cell
    have m1 := hyD.cell
    have m3 := hBD.cell
    have m4 := (hBC.kept hKD (by omega)).cell
    have m2 := hxD.cell
    have sD := hKD.size
    have sdD := (drewB wD).size
    have hKall : Kept w8 wD.drew (fun k => k = w2.heap.size ∨ k = w3.heap.size) := (((hKB.mono fun _ _ e => .inr e).trans hKC fun _ _ e => .inl e).trans hKD fun _ _ e => .inr e).trans (Kept.of_below (drewB wD) (fun _ => False)) fun _ _ e => e.elim
    have hbF := hide (b08.out.trans (hKall.below (by omega) fun b hb e => by omega))
    unfold set2 at hwB hwC hwD
    clear hx8 hy8 hBB hKB hxB hxd hyd hBC hKC hyC hBD hKD hxD hyD hKall hLg2 hcan2 hb8 hcb
    go_wp2_with fail
    refine Reg.cC [0, 0, 0, 1, 11, 31] [0, 1, 2, 3, 4, 5] ?_
    refine Reg.rest_walk' [0, 1, 2] [3, 4, 5] rfl (by kernel_rfl) ?_
    intro Qf hQf
    go_wp2_with fail
    first | refine hQf _ _ ?_ | skip
    try clear hQf
    refine Reg.rest_act' 3 [4, 5] [1] rfl (by kernel_rfl) ?_
    intro Qf hQf
    simp only [gT, gS, gZ]
    go_wp2_with fail
    first | refine hQf _ _ ⟨?_, ?_⟩ | refine ⟨?_, ?_⟩
    ·intro z hz q hq
     simp only [List.mem_singleton] at hz
     subst hz
     injection hq with hq
     subst hq
     exact same_load72 rfl rfl (e3 0) (e3 1) (e6 0) (e6 1)
    try clear hQf
    refine Reg.rest_act' 4 [5] [] rfl (by kernel_rfl) ?_
    intro Qf hQf
    simp only [gT, gS, gZ]
    go_wp2_with fail
    first | refine hQf _ _ ⟨Reg.nm, ?_⟩ | refine ⟨Reg.nm, ?_⟩
    try clear hQf
    refine Reg.rest_walk' [5] [] rfl (by kernel_rfl) ?_
    intro Qf hQf
    go_wp2_with fail
    first | refine hQf _ _ ?_ | skip
    try clear hQf
    refine Reg.rest_end ?_
    go_wp2_with fail
    refine bodyPost_ret (v := .tuple #[.agg #[.slice P1 lt p1, .slice P2 la p2], .agg #[sn0, sn0], .int .i64 4]) (by simp [results, Tryd.results83, go_sem, m1, m2]) rfl ⟨hbF.out, .inr (.inl ⟨hboH.out, .inr hLg2H.out, _, _, _, _, ⟨_, _, _, rfl⟩, ⟨_, _, _, rfl⟩, ⟨_, _, _, rfl⟩, ⟨_, _, _, rfl⟩, rfl⟩)⟩
   ·obtain ⟨Q1, q1, Q2, q2, rfl, -, -⟩ := hdB w8 (Kept.refl _ _)
    obtain ⟨lu, hya⟩ : ∃ lu, lu = u.length := ⟨_, rfl⟩
    obtain ⟨lb, hyb⟩ : ∃ lb, lb = bc.length := ⟨_, rfl⟩
    rw [← hya, ← hyb] at hdB ⊢
    have hLg2H := hide hLg2
    have hC2H := hide hC2
    have hbcH := hide hbc
    have hx8 := hBAH.out.below (hb8.mono (Nat.le_refl _))
    have hy8 := hyAH.out.below (hb8.mono (Nat.le_refl _))
    obtain ⟨wB, hwB, hBB, hKB⟩ := set2_facts hy8 (.slice Q1 lu q1) (.slice Q2 lb q2)
    have hxB := hx8.kept hKB (by omega)
    have hxd := hxB.below (drewB wB)
    have hyd := hBB.below (drewB wB)
    obtain ⟨wC, hwC, hBC, hKC⟩ := set2_facts hxB (.slice P1 lt p1) (.slice P2 la p2)
    have hyC := hBB.kept hKC (by omega)
    obtain ⟨wD, hwD, hBD, hKD⟩ := set2_facts hyC (.slice Q1 lu q1) (.slice Q2 lb q2)
    have hxD := (hBC.kept hKD (by omega)).below (drewB wD)
    have hyD := hBD.below (drewB wD)
    have sB := hKB.size
    have sC := hKC.size
    have sd := (drewB wB).size
    have f1 := hy8.frozen
    have f2 := hy8.lt
    have f3 := hy8.cell
    have g1 := hxd.frozen
    have g2 := hxd.lt
    have g3 := hxd.cell
    have e1 := hBB.cell
    have e2 := hxB.cell
    have e4 := hxB.frozen
    have e5 := hxB.lt
    have e3 := hyd.cell
    have e6 := (hyC.below (drewB wC)).cell
    have k1 := hyC.frozen
    have k2 := hyC.lt
    have k3 := hyC.cell
    have m1 := hyD.cell
    have m3 := hBD.cell
    have m4 := (hBC.kept hKD (by omega)).cell
    have m2 := hxD.cell
    have sD := hKD.size
    have sdD := (drewB wD).size
    have hKall : Kept w8 wD.drew (fun k => k = w2.heap.size ∨ k = w3.heap.size) := (((hKB.mono fun _ _ e => .inr e).trans hKC fun _ _ e => .inl e).trans hKD fun _ _ e => .inr e).trans (Kept.of_below (drewB wD) (fun _ => False)) fun _ _ e => e.elim
    have hbF := hide (b08.out.trans (hKall.below (by omega) fun b hb e => by omega))
    have hfin := hide (fun w'' (hk : Kept wD.drew w'' (fun k => k < w.heap.size)) => And.intro (hdAH.out w'' ((((hKAH.out.mono (Y := fun k => k < w6.heap.size) fun b _ e => by omega).trans (Kept.of_below hb8 (fun _ => False)) fun _ _ e => e.elim).trans hKall fun b _ e => by omega).trans hk fun b _ e => by omega)) (hdB w'' ((hKall.mono (fun b _ e => by omega)).trans hk fun b _ e => by omega)))
    unfold set2 at hwB hwC hwD
    clear hx8 hy8 hBB hKB hxB hxd hyd hBC hKC hyC hBD hKD hxD hyD hKall hLg2 hC2 hbc hdB hcan2 hb8 hcb hya hyb
    go_wp2_with fail
    refine Reg.cC [0, 0, 0, 1, 11, 31] [0, 1, 2, 3, 4, 5] ?_
    refine Reg.rest_walk' [0, 1, 2] [3, 4, 5] rfl (by kernel_rfl) ?_
    intro Qf hQf
    go_wp2_with fail
    first | refine hQf _ _ ?_ | skip
    try clear hQf
    refine Reg.rest_act' 3 [4, 5] [1] rfl (by kernel_rfl) ?_
    intro Qf hQf
    simp only [gT, gS, gZ]
    go_wp2_with fail
    first | refine hQf _ _ ⟨?_, ?_⟩ | refine ⟨?_, ?_⟩
    ·intro z hz q hq
     simp only [List.mem_singleton] at hz
     subst hz
     injection hq with hq
     subst hq
     exact same_load72 rfl rfl (e3 0) (e3 1) (e6 0) (e6 1)
    try clear hQf
    refine Reg.rest_act' 4 [5] [] rfl (by kernel_rfl) ?_
    intro Qf hQf
    simp only [gT, gS, gZ]
    go_wp2_with fail
    first | refine hQf _ _ ⟨Reg.nm, ?_⟩ | refine ⟨Reg.nm, ?_⟩
    try clear hQf
    refine Reg.rest_walk' [5] [] rfl (by kernel_rfl) ?_
    intro Qf hQf
    go_wp2_with fail
    first | refine hQf _ _ ?_ | skip
    try clear hQf
    refine Reg.rest_end ?_
    go_wp2_with fail
    refine bodyPost_ret (v := .tuple #[.agg #[.slice P1 lt p1, .slice P2 la p2], .agg #[.slice Q1 lu q1, .slice Q2 lb q2], .int .i64 0]) (by simp [results, Tryd.results83, go_sem, m1, m2]) rfl ⟨hbF.out, .inr (.inr ⟨hboH.out, hLgH.out, hLg2H.out, t, ac, u, bc, _, _, _, _, hCH.out, hC2H.out, hacH.out, hbcH.out, rfl, hfin.out⟩)⟩
end Go.Proofs.YtpmceapjnnkhjaaDoor
namespace Go.Proofs.YtpmceapjnnkhjaaDoor
open Go.RowKit
set_option maxHeartbeats 16000000
set_option maxRecDepth 100000
def BigJ (a b : WA) : Prop := a.nf.Large 400 ∨ b.nf.Large 400 ∨ ∃ t ac u bc, CanT a.L t ac a.lang ∧ CanT b.L u bc b.lang ∧ 400 < ac.length * bc.length
def CombRet (op : Bool → Bool → Bool) (w : World) (a b : WA) (v : Value) (w' : World) : Prop :=
 Below w.heap.size w w' ∧ ((a.both b = false ∧ v = .tuple #[.agg zero25, .int .i64 1]) ∨ (a.both b = true ∧ BigJ a b ∧ v = .tuple #[.agg zero25, .int .i64 4]) ∨
  (a.both b = true ∧ ¬ BigJ a b ∧ ∃ t ac d, CanT a.L t ac (fun z => op (a.lang z) (b.lang z)) ∧ ac.length ≤ 400 ∧ v = .tuple #[d, .int .i64 0] ∧ ∀ w'', Kept w' w'' (fun k => k < w.heap.size) → IsWA w'' w''.heap.size d (plainW a.L t ac)))
theorem two_box (w : World) (x0 x1 y0 y1 : Value) : ∃ w5 w6 wA wB, w.alloc (.cells #[sn0, sn0] 72) = w5 ∧ w5.alloc (.cells #[sn0, sn0] 72) = w6 ∧ set2 w6 w.heap.size x0 x1 = wA ∧ set2 wA w5.heap.size y0 y1 = wB ∧ Blk w6 w.heap.size 72 #[sn0, sn0] ∧ Blk wA w5.heap.size 72 #[sn0, sn0] ∧ Blk wB w.heap.size 72 #[x0, x1] ∧ Blk wB w5.heap.size 72 #[y0, y1] ∧ Below w.heap.size w wB ∧ w.heap.size < w5.heap.size := by
 obtain ⟨w5, hw5, hb5, hB5, hk5⟩ := box_blk w #[sn0, sn0] 72
 obtain ⟨w6, hw6, hb6, hB6, hk6⟩ := box_blk w5 #[sn0, sn0] 72
 have l5 := hB5.lt
 have hx := hB5.below hb6
 obtain ⟨wA, hwA, hBA, hKA⟩ := set2_facts hx x0 x1
 have hy := hB6.kept hKA (by omega)
 obtain ⟨wB, hwB, hBB, hKB⟩ := set2_facts hy y0 y1
 have s5 := hb5.size
 have s6 := hb6.size
 have sA := hKA.size
 exact ⟨w5, w6, wA, wB, hw5, hw6, hwA, hwB, hx, hy, hBA.kept hKB (by omega), hBB, ((hb5.trans (hb6.mono s5)).trans (hKA.below (by omega) fun b hb e => by omega)).trans (hKB.below (by omega) fun b hb e => by omega), l5⟩
theorem combine_any {F : Nat} {op : Bool → Bool → Bool} (hF : OpF F op) {vA vB : Value} {a b : WA} {w : World} (hA : IsWA w w.heap.size vA a) (hB : IsWA w w.heap.size vB b) (hea : a.edges.length ≤ 3000000) (hsa : a.start.length ≤ 4000000) (heb : b.edges.length ≤ 3000000) (hsb : b.start.length ≤ 4000000) (hT : PowT w) :
  Calls Tryd.prog 78 #[vA, vB, .func (.func F) #[] #[]] w (Ret fun r w' => CombRet op w a b r w') := by
 have hAH := hide hA
 have hBH := hide hB
 have hTH := hide hT
 obtain ⟨A1, c1, A2, c2, A3, c3, rfl, -⟩ := hA
 obtain ⟨B1, d1, B2, d2, B3, d3, rfl, -⟩ := hB
 obtain ⟨w1, hw1, hb1, hB1, hk1⟩ := box_blk w #[.int .i64 a.letters, .int .i64 a.states, .slice A1 a.start.length c1, .slice A2 a.accept.length c2, .slice A3 a.edges.length c3] 25
 obtain ⟨w2, hw2, hb2, hB2, hk2⟩ := box_blk w1 #[.int .i64 b.letters, .int .i64 b.states, .slice B1 b.start.length d1, .slice B2 b.accept.length d2, .slice B3 b.edges.length d3] 25
 obtain ⟨w3, hw3, hb3, hB3, hk3⟩ := box_blk w2 zero25 25
 have s1 := hb1.size
 have s2 := hb2.size
 have s3 := hb3.size
 have l1 := hB1.lt
 have l2 := hB2.lt
 have l3 := hB3.lt
 have b13 : Below w1.heap.size w1 w3 := hb2.trans (hb3.mono s2)
 have b03 := hide (hb1.trans (b13.mono s1))
 have hBa3 := hide (hB1.below b13)
 have hBb3 := hide (hB2.below hb3)
 have hBr3 := hide hB3
 have f1 := hBa3.out.cell
 have f2 := hBb3.out.cell
 have hpair := pair_any (hAH.out.keep (w' := w3) (fun p hp => b03.out.cell hp) b03.out.size) (hBH.out.keep (w' := w3) (fun p hp => b03.out.cell hp) b03.out.size) hea hsa heb hsb (hTH.out.below b03.out)
 clear hk1 hk2 hk3 hB1 hB2 hB3 hb1 hb2 hb3 b13 hT
 go_enter Tryd.func78, Tryd.ntmps78
 go_wp2_with fail
 refine Calls.ret hpair ?_
 rintro r w4 ⟨hb4, hcase⟩
 have s4 := hb4.size
 have b04 := hide (b03.out.trans (hb4.mono b03.out.size))
 have hBa4 := hide (hBa3.out.below hb4)
 have hBr4 := hide (hBr3.out.below hb4)
 have bs := b04.out.size
 clear hpair f1 f2
 rcases hcase with ⟨hbo, rfl⟩ | ⟨hbo, hbig, x0, x1, y0, y1, e0, e1, e2, e3, rfl⟩ | ⟨hbo, hla, hlb, t, ac, u, bc, x0, x1, y0, y1, hCa, hCb, hac, hbc, rfl, hD⟩
 ·have hboH := hide hbo
  obtain ⟨w5, w6, wA, wB, hw5, hw6, hwA, hwB, hx6, hyA, hxB, hyB, hbB, l5⟩ := two_box w4 (sn0) (sn0) (sn0) (sn0)
  have bsB := hbB.size
  have b0B := hide (b04.out.trans (hbB.mono b04.out.size))
  have hBrB := hBr4.out.below hbB
  have hBaB := hide (hBa4.out.below hbB)
  have i1 := hx6.frozen
  have i2 := hx6.lt
  have i3 := hx6.cell
  have i4 := hyA.frozen
  have i5 := hyA.lt
  have i6 := hyA.cell
  have i7 := hxB.cell
  have i8 := hyB.cell
  obtain ⟨wF, hwF, hBF, hKF⟩ := set5_facts hBrB (.int .i64 0) (.int .i64 0) sn0 sn0 sn0
  have j1 := hBrB.frozen
  have j2 := hBrB.lt
  have j3 := hBrB.cell
  have j4 := hBF.cell
  have hbF := hide (b0B.out.trans (hKF.below (by have := b0B.out.size; omega) fun b hb e => by omega))
  unfold set2 at hwA hwB
  unfold set5 at hwF
  clear hb4 hx6 hyA hxB hyB hbB hBrB hBF hKF
  go_wp2_with fail
  refine bodyPost_ret (v := .tuple #[.agg zero25, .int .i64 1]) (by simp [results, Tryd.results78, go_sem, j4]) rfl ⟨hbF.out, .inl ⟨hboH.out, rfl⟩⟩
 ·obtain ⟨P1, n1, p1, rfl⟩ := e0
  obtain ⟨P2, n2, p2, rfl⟩ := e1
  obtain ⟨P3, n3, p3, rfl⟩ := e2
  obtain ⟨P4, n4, p4, rfl⟩ := e3
  have hboH := hide hbo
  have hbigH := hide hbig
  clear hbig
  obtain ⟨w5, w6, wA, wB, hw5, hw6, hwA, hwB, hx6, hyA, hxB, hyB, hbB, l5⟩ := two_box w4 (.slice P1 n1 p1) (.slice P2 n2 p2) (.slice P3 n3 p3) (.slice P4 n4 p4)
  have bsB := hbB.size
  have b0B := hide (b04.out.trans (hbB.mono b04.out.size))
  have hBrB := hBr4.out.below hbB
  have hBaB := hide (hBa4.out.below hbB)
  have i1 := hx6.frozen
  have i2 := hx6.lt
  have i3 := hx6.cell
  have i4 := hyA.frozen
  have i5 := hyA.lt
  have i6 := hyA.cell
  have i7 := hxB.cell
  have i8 := hyB.cell
  obtain ⟨wF, hwF, hBF, hKF⟩ := set5_facts hBrB (.int .i64 0) (.int .i64 0) sn0 sn0 sn0
  have j1 := hBrB.frozen
  have j2 := hBrB.lt
  have j3 := hBrB.cell
  have j4 := hBF.cell
  have hbF := hide (b0B.out.trans (hKF.below (by have := b0B.out.size; omega) fun b hb e => by omega))
  unfold set2 at hwA hwB
  unfold set5 at hwF
  clear hb4 hx6 hyA hxB hyB hbB hBrB hBF hKF
  go_wp2_with fail
  refine bodyPost_ret (v := .tuple #[.agg zero25, .int .i64 4]) (by simp [results, Tryd.results78, go_sem, j4]) rfl ⟨hbF.out, .inr (.inl ⟨hboH.out, hbigH.out.elim .inl fun h => .inr (.inl h), rfl⟩)⟩
 ·obtain ⟨⟨P1, p1, P2, p2, e1, -, -⟩, P3, p3, P4, p4, e2, -, -⟩ := hD w4 (Kept.refl _ _)
  injection e1 with e1
  injection e2 with e2
  simp only [Array.mk.injEq, List.cons.injEq, and_true] at e1 e2
  obtain ⟨rfl, rfl⟩ := e1
  obtain ⟨rfl, rfl⟩ := e2
  obtain ⟨oka, okb, hle⟩ := WA.both_iff.1 hbo
  have hLL : b.L = a.L := by unfold WA.L; rw [hle]
  have hL8 : a.L ≤ 8 := by have := (WA.ok_iff.1 oka).1; unfold WA.L; omega
  have hlet : a.letters = (a.L : Int) := by have := (WA.ok_iff.1 oka).1; unfold WA.L; omega
  rw [hLL] at hCb
  have htl := hCa.ok.len
  have hul := hCb.ok.len
  rw [htl, hul] at hD ⊢
  obtain ⟨na, hna⟩ : ∃ na, na = ac.length := ⟨_, rfl⟩
  obtain ⟨nb, hnb⟩ : ∃ nb, nb = bc.length := ⟨_, rfl⟩
  rw [← hna, ← hnb] at hD ⊢
  have hboH := hide hbo
  have hDH := hide hD
  have hCaH := hide hCa
  have hCbH := hide hCb
  have hlaH := hide hla
  have hlbH := hide hlb
  have hnaH := hide hna
  have hnbH := hide hnb
  have hn1 : na ≤ 400 := by omega
  have hn2 : nb ≤ 400 := by omega
  have hmul : na * nb ≤ 160000 := Nat.mul_le_mul hn1 hn2
  have hmulI : (na : Int) * (nb : Int) = ((na * nb : Nat) : Int) := by rw [Int.natCast_mul]
  obtain ⟨nm, hnm⟩ : ∃ nm, nm = na * nb := ⟨_, rfl⟩
  rw [← hnm] at hmul hmulI
  have hnmH := hide hnm
  have hletH := hide hlet
  have hbigI := hide (show BigJ a b ↔ 400 < nm from by
   constructor
   ·rintro (h | h | ⟨t2, ac2, u2, bc2, k1, k2, k3⟩)
    ·exact (hla h).elim
    ·exact (hlb h).elim
    ·rw [hLL] at k2
     obtain ⟨-, rfl⟩ := k1.unique hCa fun _ _ => rfl
     obtain ⟨-, rfl⟩ := k2.unique hCb fun _ _ => rfl
     rw [hnm, hna, hnb]; exact k3
   ·intro h
    exact .inr (.inr ⟨t, ac, u, bc, hCa, by rw [hLL]; exact hCb, by rw [← hna, ← hnb, ← hnm]; exact h⟩))
  clear hbo hD hCa hCb hla hlb hna hnb hac hbc htl hul hnm oka okb hle hlet
  obtain ⟨w5, w6, wA, wB, hw5, hw6, hwA, hwB, hx6, hyA, hxB, hyB, hbB, l5⟩ := two_box w4 (.slice P1 na p1) (.slice P2 na p2) (.slice P3 nb p3) (.slice P4 nb p4)
  have bsB := hbB.size
  have b0B := hide (b04.out.trans (hbB.mono b04.out.size))
  have hBrB := hBr4.out.below hbB
  have hBaB := hide (hBa4.out.below hbB)
  have i1 := hx6.frozen
  have i2 := hx6.lt
  have i3 := hx6.cell
  have i4 := hyA.frozen
  have i5 := hyA.lt
  have i6 := hyA.cell
  have i7 := hxB.cell
  have i8 := hyB.cell
  by_cases hbig : 400 < nm
  ·have hbg := hide (hbigI.out.2 hbig)
   obtain ⟨wF, hwF, hBF, hKF⟩ := set5_facts hBrB (.int .i64 0) (.int .i64 0) sn0 sn0 sn0
   have j1 := hBrB.frozen
   have j2 := hBrB.lt
   have j3 := hBrB.cell
   have j4 := hBF.cell
   have hbF := hide (b0B.out.trans (hKF.below (by have := b0B.out.size; omega) fun b hb e => by omega))
   unfold set2 at hwA hwB
   unfold set5 at hwF
   clear hb4 hx6 hyA hxB hyB hbB hBrB hBF hKF
   go_wp2_with fail
   refine bodyPost_ret (v := .tuple #[.agg zero25, .int .i64 4]) (by simp [results, Tryd.results78, go_sem, j4]) rfl ⟨hbF.out, .inr (.inl ⟨hboH.out, hbg.out, rfl⟩)⟩
  ·have hnbg := hide (fun h => hbig (hbigI.out.1 h))
   have k1 := hBaB.out.cell
   have hDB := hDH.out wB.drew (((Kept.of_below hbB (fun _ => False)).trans (Kept.of_below (drewB wB) (fun _ => False)) fun _ _ e => e.elim).mono fun _ _ e => e.elim)
   have bdB := hide (b0B.out.trans ((drewB wB).mono b0B.out.size))
   have hpr := product_any hF hDB.1 hDB.2 hCaH.out.ok hCbH.out.ok hL8 (by rw [← hnaH.out, ← hnbH.out, ← hnmH.out]; omega) (hTH.out.below bdB.out)
   have hBrH := hide hBrB
   unfold set2 at hwA hwB
   clear hb4 hx6 hyA hxB hyB hbB hDB hBrB
   go_wp2_with fail
   refine Reg.cC [0, 0, 0, 7, 0, 16, 63, 127, 255] [0, 1, 2, 4, 5, 3, 6, 7, 8] ?_
   refine Reg.rest_walk' [0, 1, 2, 4, 5] [3, 6, 7, 8] rfl (by kernel_rfl) ?_
   intro Qf hQf
   go_wp2_with fail
   first | refine hQf _ _ ?_ | skip
   try clear hQf
   refine Reg.rest_act' 3 [6, 7, 8] [5] rfl (by kernel_rfl) ?_
   intro Qf hQf
   simp only [gT, gS, gZ]
   go_wp2_with fail
   refine Calls.ret hpr ?_
   rintro d w7 ⟨hb7, t', ac', hC', hacl, hD'⟩
   have b07 := hide (bdB.out.trans (hb7.mono bdB.out.size))
   have hau := automaton_any (hD' w7 (Kept.refl _ _)) hC'.ok hL8 (by rw [← hnaH.out, ← hnbH.out, ← hnmH.out] at hacl; omega)
   rw [← hletH.out] at hau
   have hCC := hide (hC'.congr (Λ' := fun z => op (a.lang z) (b.lang z)) fun z hz => by
    show op (a.lang z) (b.lang z) = op (langT t ac z) (langT u bc z)
    rw [show langT t ac z = a.lang z from hCaH.out.can.lang z hz, show langT u bc z = b.lang z from hCbH.out.can.lang z hz])
   have hacl2 : Hid (ac'.length ≤ 400) := by
    show _ ≤ _
    rw [← hnaH.out, ← hnbH.out, ← hnmH.out] at hacl
    omega
   have s7 := hb7.size
   have hBr7 := hide ((hBrH.out.below (drewB wB)).below hb7)
   go_wp2_with fail
   first | refine hQf _ _ ⟨Reg.same_below hb7 [5] rfl, ?_⟩ | refine ⟨Reg.same_below hb7 [5] rfl, ?_⟩
   try clear hQf
   clear hpr hb7 hD' hC' hacl
   refine Reg.rest_act' 6 [7, 8] [] rfl (by kernel_rfl) ?_
   intro Qf hQf
   simp only [gT, gS, gZ]
   go_wp2_with fail
   refine Calls.ret hau ?_
   rintro d8 w8 ⟨hb8, hI⟩
   obtain ⟨m, hm⟩ : ∃ m, m = plainW a.L t' ac' := ⟨_, rfl⟩
   rw [← hm] at hI
   have hmH := hide hm
   obtain ⟨E1, h1, E2, h2, E3, h3, rfl, -⟩ := hI w8 (Kept.refl _ _)
   have b08 := hide (b07.out.trans (hb8.mono b07.out.size))
   have hBr8 := hBr7.out.below hb8
   have s8 := hb8.size
   have sB := (drewB wB).size
   obtain ⟨wF, hwF, hBF, hKF⟩ := set5_facts hBr8 (.int .i64 m.letters) (.int .i64 m.states) (.slice E1 m.start.length h1) (.slice E2 m.accept.length h2) (.slice E3 m.edges.length h3)
   have j1 := hBr8.frozen
   have j2 := hBr8.lt
   have j3 := hBr8.cell
   have j4 := hBF.cell
   have hbF := hide (b08.out.trans (hKF.below (by have := b08.out.size; omega) fun b hb e => by omega))
   have hfin := hide (fun w'' (hk : Kept wF w'' (fun k => k < w.heap.size)) => hI w'' ((hKF.mono fun b _ e => by omega).trans hk fun b _ e => by omega))
   unfold set5 at hwF
   clear hau hm hI hb8 hBr8 hBF hKF
   go_wp2_with fail
   first | refine hQf _ _ ⟨Reg.nm, ?_⟩ | refine ⟨Reg.nm, ?_⟩
   try clear hQf
   refine Reg.rest_act' 7 [8] [] rfl (by kernel_rfl) ?_
   intro Qf hQf
   simp only [gT, gS, gZ]
   go_wp2_with fail
   first | refine hQf _ _ ⟨Reg.nm, ?_⟩ | refine ⟨Reg.nm, ?_⟩
   try clear hQf
   refine Reg.rest_walk' [8] [] rfl (by kernel_rfl) ?_
   intro Qf hQf
   go_wp2_with fail
   first | refine hQf _ _ ?_ | skip
   try clear hQf
   refine Reg.rest_end ?_
   go_wp2_with fail
   refine bodyPost_ret (v := .tuple #[.agg #[.int .i64 m.letters, .int .i64 m.states, .slice E1 m.start.length h1, .slice E2 m.accept.length h2, .slice E3 m.edges.length h3], .int .i64 0]) (by simp [results, Tryd.results78, go_sem, j4]) rfl ⟨hbF.out, .inr (.inr ⟨hboH.out, hnbg.out, t', ac', _, hCC.out, hacl2.out, rfl, by rw [← hmH.out]; exact hfin.out⟩)⟩
end Go.Proofs.YtpmceapjnnkhjaaDoor
namespace Go.Proofs.YtpmceapjnnkhjaaDoor
open Go.RowKit
set_option maxHeartbeats 16000000
set_option maxRecDepth 100000
theorem union_any {vA vB : Value} {a b : WA} {w : World} (hA : IsWA w w.heap.size vA a) (hB : IsWA w w.heap.size vB b) (hea : a.edges.length ≤ 3000000) (hsa : a.start.length ≤ 4000000) (heb : b.edges.length ≤ 3000000) (hsb : b.start.length ≤ 4000000) (hT : PowT w) :
  Calls Tryd.prog 43 #[vA, vB] w (Ret fun r w' => CombRet (fun x y => x || y) w a b r w') := by
 have hAH := hide hA
 have hBH := hide hB
 obtain ⟨A1, c1, A2, c2, A3, c3, rfl, -⟩ := hA
 obtain ⟨B1, d1, B2, d2, B3, d3, rfl, -⟩ := hB
 obtain ⟨w1, hw1, hb1, hB1, hk1⟩ := box_blk w #[.int .i64 a.letters, .int .i64 a.states, .slice A1 a.start.length c1, .slice A2 a.accept.length c2, .slice A3 a.edges.length c3] 25
 obtain ⟨w2, hw2, hb2, hB2, hk2⟩ := box_blk w1 #[.int .i64 b.letters, .int .i64 b.states, .slice B1 b.start.length d1, .slice B2 b.accept.length d2, .slice B3 b.edges.length d3] 25
 obtain ⟨w3, hw3, hb3, hB3, hk3⟩ := box_blk w2 zero25 25
 have s1 := hb1.size
 have s2 := hb2.size
 have s3 := hb3.size
 have l3 := hB3.lt
 have b13 : Below w1.heap.size w1 w3 := hb2.trans (hb3.mono s2)
 have b03 := hide (hb1.trans (b13.mono s1))
 have f1 := (hB1.below b13).cell
 have f2 := (hB2.below hb3).cell
 have hBr3 := hide hB3
 have hcom := combine_any (F := 79) (op := fun x y => x || y) (.inl ⟨rfl, rfl⟩) (hAH.out.keep (w' := w3) (fun p hp => b03.out.cell hp) b03.out.size) (hBH.out.keep (w' := w3) (fun p hp => b03.out.cell hp) b03.out.size) hea hsa heb hsb (hT.below b03.out)
 clear hk1 hk2 hk3 hB1 hB2 hB3 hb1 hb2 hb3 b13 hT
 go_enter Tryd.func43, Tryd.ntmps43
 go_wp2_with fail
 refine Calls.ret hcom ?_
 rintro r w4 ⟨hb4, hcase⟩
 have s4 := hb4.size
 have b04 := hide (b03.out.trans (hb4.mono b03.out.size))
 have bs := b04.out.size
 have hBr4 := hBr3.out.below hb4
 have j1 := hBr4.frozen
 have j2 := hBr4.lt
 have j3 := hBr4.cell
 clear hcom f1 f2
 rcases hcase with ⟨hbo, rfl⟩ | ⟨hbo, hbig, rfl⟩ | ⟨hbo, hnb, t, ac, d, hC, hac, rfl, hI⟩
 ·obtain ⟨wF, hwF, hBF, hKF⟩ := set5_facts hBr4 (.int .i64 0) (.int .i64 0) sn0 sn0 sn0
  have j4 := hBF.cell
  have hbF := hide (b04.out.trans (hKF.below (by omega) fun b hb e => by omega))
  have hboH := hide hbo
  unfold set5 at hwF
  clear hb4 hBr4 hBF hKF hbo
  go_wp2_with fail
  refine bodyPost_ret (v := .tuple #[.agg zero25, .int .i64 1]) (by simp [results, Tryd.results43, go_sem, j4]) rfl ⟨hbF.out, .inl ⟨hboH.out, rfl⟩⟩
 ·obtain ⟨wF, hwF, hBF, hKF⟩ := set5_facts hBr4 (.int .i64 0) (.int .i64 0) sn0 sn0 sn0
  have j4 := hBF.cell
  have hbF := hide (b04.out.trans (hKF.below (by omega) fun b hb e => by omega))
  have hboH := hide hbo
  have hbgH := hide hbig
  unfold set5 at hwF
  clear hb4 hBr4 hBF hKF hbo hbig
  go_wp2_with fail
  refine bodyPost_ret (v := .tuple #[.agg zero25, .int .i64 4]) (by simp [results, Tryd.results43, go_sem, j4]) rfl ⟨hbF.out, .inr (.inl ⟨hboH.out, hbgH.out, rfl⟩)⟩
 ·obtain ⟨m, hm⟩ : ∃ m, m = plainW a.L t ac := ⟨_, rfl⟩
  rw [← hm] at hI
  have hmH := hide hm
  obtain ⟨E1, h1, E2, h2, E3, h3, rfl, -⟩ := hI w4 (Kept.refl _ _)
  obtain ⟨wF, hwF, hBF, hKF⟩ := set5_facts hBr4 (.int .i64 m.letters) (.int .i64 m.states) (.slice E1 m.start.length h1) (.slice E2 m.accept.length h2) (.slice E3 m.edges.length h3)
  have j4 := hBF.cell
  have hbF := hide (b04.out.trans (hKF.below (by omega) fun b hb e => by omega))
  have hfin := hide (fun w'' (hk : Kept wF w'' (fun k => k < w.heap.size)) => hI w'' ((hKF.mono fun b _ e => by omega).trans hk fun b _ e => by omega))
  have hboH := hide hbo
  have hnbH := hide hnb
  have hCH := hide hC
  have hacH := hide hac
  unfold set5 at hwF
  clear hb4 hBr4 hBF hKF hbo hnb hC hac hI hm
  go_wp2_with fail
  refine bodyPost_ret (v := .tuple #[.agg #[.int .i64 m.letters, .int .i64 m.states, .slice E1 m.start.length h1, .slice E2 m.accept.length h2, .slice E3 m.edges.length h3], .int .i64 0]) (by simp [results, Tryd.results43, go_sem, j4]) rfl ⟨hbF.out, .inr (.inr ⟨hboH.out, hnbH.out, t, ac, _, hCH.out, hacH.out, rfl, by rw [← hmH.out]; exact hfin.out⟩)⟩
theorem inter_any {vA vB : Value} {a b : WA} {w : World} (hA : IsWA w w.heap.size vA a) (hB : IsWA w w.heap.size vB b) (hea : a.edges.length ≤ 3000000) (hsa : a.start.length ≤ 4000000) (heb : b.edges.length ≤ 3000000) (hsb : b.start.length ≤ 4000000) (hT : PowT w) :
  Calls Tryd.prog 44 #[vA, vB] w (Ret fun r w' => CombRet (fun x y => x && y) w a b r w') := by
 have hAH := hide hA
 have hBH := hide hB
 obtain ⟨A1, c1, A2, c2, A3, c3, rfl, -⟩ := hA
 obtain ⟨B1, d1, B2, d2, B3, d3, rfl, -⟩ := hB
 obtain ⟨w1, hw1, hb1, hB1, hk1⟩ := box_blk w #[.int .i64 a.letters, .int .i64 a.states, .slice A1 a.start.length c1, .slice A2 a.accept.length c2, .slice A3 a.edges.length c3] 25
 obtain ⟨w2, hw2, hb2, hB2, hk2⟩ := box_blk w1 #[.int .i64 b.letters, .int .i64 b.states, .slice B1 b.start.length d1, .slice B2 b.accept.length d2, .slice B3 b.edges.length d3] 25
 obtain ⟨w3, hw3, hb3, hB3, hk3⟩ := box_blk w2 zero25 25
 have s1 := hb1.size
 have s2 := hb2.size
 have s3 := hb3.size
 have l3 := hB3.lt
 have b13 : Below w1.heap.size w1 w3 := hb2.trans (hb3.mono s2)
 have b03 := hide (hb1.trans (b13.mono s1))
 have f1 := (hB1.below b13).cell
 have f2 := (hB2.below hb3).cell
 have hBr3 := hide hB3
 have hcom := combine_any (F := 80) (op := fun x y => x && y) (.inr (.inl ⟨rfl, rfl⟩)) (hAH.out.keep (w' := w3) (fun p hp => b03.out.cell hp) b03.out.size) (hBH.out.keep (w' := w3) (fun p hp => b03.out.cell hp) b03.out.size) hea hsa heb hsb (hT.below b03.out)
 clear hk1 hk2 hk3 hB1 hB2 hB3 hb1 hb2 hb3 b13 hT
 go_enter Tryd.func44, Tryd.ntmps44
 go_wp2_with fail
 refine Calls.ret hcom ?_
 rintro r w4 ⟨hb4, hcase⟩
 have s4 := hb4.size
 have b04 := hide (b03.out.trans (hb4.mono b03.out.size))
 have bs := b04.out.size
 have hBr4 := hBr3.out.below hb4
 have j1 := hBr4.frozen
 have j2 := hBr4.lt
 have j3 := hBr4.cell
 clear hcom f1 f2
 rcases hcase with ⟨hbo, rfl⟩ | ⟨hbo, hbig, rfl⟩ | ⟨hbo, hnb, t, ac, d, hC, hac, rfl, hI⟩
 ·obtain ⟨wF, hwF, hBF, hKF⟩ := set5_facts hBr4 (.int .i64 0) (.int .i64 0) sn0 sn0 sn0
  have j4 := hBF.cell
  have hbF := hide (b04.out.trans (hKF.below (by omega) fun b hb e => by omega))
  have hboH := hide hbo
  unfold set5 at hwF
  clear hb4 hBr4 hBF hKF hbo
  go_wp2_with fail
  refine bodyPost_ret (v := .tuple #[.agg zero25, .int .i64 1]) (by simp [results, Tryd.results44, go_sem, j4]) rfl ⟨hbF.out, .inl ⟨hboH.out, rfl⟩⟩
 ·obtain ⟨wF, hwF, hBF, hKF⟩ := set5_facts hBr4 (.int .i64 0) (.int .i64 0) sn0 sn0 sn0
  have j4 := hBF.cell
  have hbF := hide (b04.out.trans (hKF.below (by omega) fun b hb e => by omega))
  have hboH := hide hbo
  have hbgH := hide hbig
  unfold set5 at hwF
  clear hb4 hBr4 hBF hKF hbo hbig
  go_wp2_with fail
  refine bodyPost_ret (v := .tuple #[.agg zero25, .int .i64 4]) (by simp [results, Tryd.results44, go_sem, j4]) rfl ⟨hbF.out, .inr (.inl ⟨hboH.out, hbgH.out, rfl⟩)⟩
 ·obtain ⟨m, hm⟩ : ∃ m, m = plainW a.L t ac := ⟨_, rfl⟩
  rw [← hm] at hI
  have hmH := hide hm
  obtain ⟨E1, h1, E2, h2, E3, h3, rfl, -⟩ := hI w4 (Kept.refl _ _)
  obtain ⟨wF, hwF, hBF, hKF⟩ := set5_facts hBr4 (.int .i64 m.letters) (.int .i64 m.states) (.slice E1 m.start.length h1) (.slice E2 m.accept.length h2) (.slice E3 m.edges.length h3)
  have j4 := hBF.cell
  have hbF := hide (b04.out.trans (hKF.below (by omega) fun b hb e => by omega))
  have hfin := hide (fun w'' (hk : Kept wF w'' (fun k => k < w.heap.size)) => hI w'' ((hKF.mono fun b _ e => by omega).trans hk fun b _ e => by omega))
  have hboH := hide hbo
  have hnbH := hide hnb
  have hCH := hide hC
  have hacH := hide hac
  unfold set5 at hwF
  clear hb4 hBr4 hBF hKF hbo hnb hC hac hI hm
  go_wp2_with fail
  refine bodyPost_ret (v := .tuple #[.agg #[.int .i64 m.letters, .int .i64 m.states, .slice E1 m.start.length h1, .slice E2 m.accept.length h2, .slice E3 m.edges.length h3], .int .i64 0]) (by simp [results, Tryd.results44, go_sem, j4]) rfl ⟨hbF.out, .inr (.inr ⟨hboH.out, hnbH.out, t, ac, _, hCH.out, hacH.out, rfl, by rw [← hmH.out]; exact hfin.out⟩)⟩
end Go.Proofs.YtpmceapjnnkhjaaDoor
