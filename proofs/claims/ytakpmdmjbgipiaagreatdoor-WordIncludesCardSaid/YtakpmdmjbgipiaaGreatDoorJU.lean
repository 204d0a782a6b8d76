/-
  Part JU of a proof.
-/
import Derived.Test.YtakpmdmjbgipiaaGreatDoorPA
import Derived.Test.YtakpmdmjbgipiaaGreatDoorJS
import Derived.Test.YtakpmdmjbgipiaaGreatDoorJO
import Derived.Test.YtakpmdmjbgipiaaGreatDoorJT
import Derived.Test.YtakpmdmjbgipiaaGreatDoorJP
set_option maxHeartbeats 16000000
set_option maxRecDepth 100000
set_option linter.unusedVariables false
set_option linter.unusedSimpArgs false
namespace Go.Proofs.YtakpmdmjbgipiaaGreatDoor
open Go.RowKit
set_option maxHeartbeats 16000000
set_option maxRecDepth 100000
theorem jn_lang {o : Int} {L : Nat} {t u : List (List Nat)} {ac bc : List Bool} {Λ Λ' : List Nat → Bool} {all : List (Nat × Nat)} (hC : CanT L t ac Λ) (hC' : CanT L u bc Λ') (hD : Disc L (dPr t u) (0, 0) all) {z : List Nat} (hz : okW L z) : langT (rowsG L (dPr t u) all all.length) (all.map (accPr (hldF o) ac bc)) z = hldF o (Λ z) (Λ' z) := by
 rw [pr_lang hD hz, show langT t ac z = Λ z from hC.can.lang z hz, show langT u bc z = Λ' z from hC'.can.lang z hz]
theorem FirstW.congr {L : Nat} {Λ Λ' : List Nat → Bool} {z : List Nat} (h : FirstW L Λ z) (hΛ : ∀ v, okW L v → Λ v = Λ' v) : FirstW L Λ' z :=
 ⟨h.1, by rw [← hΛ z h.1]; exact h.2.1, fun v hv hA => h.2.2 v hv (by rw [hΛ v hv]; exact hA)⟩
theorem refIncluded_any {vA vB : Value} {a b : WA} {w : World} (hA : IsWA w w.heap.size vA a) (hB : IsWA w w.heap.size vB b) :
  Calls Tryz.prog 17 #[vA, vB] w (Ret fun r w' => IncRet w a b r w') := by
 have hAH := hide hA
 have hBH := hide hB
 obtain ⟨A1, c1, A2, c2, A3, c3, rfl, -⟩ := hA
 obtain ⟨B1, d1, B2, d2, B3, d3, rfl, -⟩ := hB
 obtain ⟨w1, hw1, hb1, hB1, -⟩ := box_blk w #[.int .i64 a.letters, .int .i64 a.states, .slice A1 a.start.length c1, .slice A2 a.accept.length c2, .slice A3 a.edges.length c3] 28
 obtain ⟨w2, hw2, hb2, hB2, -⟩ := box_blk w1 #[.int .i64 b.letters, .int .i64 b.states, .slice B1 b.start.length d1, .slice B2 b.accept.length d2, .slice B3 b.edges.length d3] 28
 have s1 := hb1.size
 have b02 := hide (hb1.trans (hb2.mono s1))
 have hX2 := hide (hB1.below hb2)
 have fx := hX2.out.cell
 have fy := hB2.cell
 have hpr := refPair_any (hAH.out.keep (w' := w2) (fun p hp => b02.out.cell hp) b02.out.size) (hBH.out.keep (w' := w2) (fun p hp => b02.out.cell hp) b02.out.size)
 clear hb1 hb2 hB1 hB2
 go_enter Tryz.func17, Tryz.ntmps17
 go_wp2_with fail
 refine Calls.ret hpr ?_
 rintro r w4 ⟨hb4, x, y, e, hx, hy, rfl, hpe, hok⟩
 have s4 := hb4.size
 have b04 := hide (b02.out.trans (hb4.mono b02.out.size))
 have hX4 := hide (hX2.out.below hb4)
 have hpeH := hide hpe
 clear hpr hb4 fx fy
 by_cases hz : e = 0
 ·subst hz
  obtain ⟨t, ac, u, bc, hCa, hCb, hac, hbc, hI⟩ := hok rfl
  have hbo : a.both b = true := by
   rcases hpe with ⟨-, h⟩ | ⟨-, -, h⟩ | ⟨h, -⟩
   ·exact absurd h (by decide)
   ·exact absurd h (by decide)
   ·exact h
  obtain ⟨oka, okb, hle⟩ := WA.both_iff.1 hbo
  have hLL : b.L = a.L := by unfold WA.L; rw [hle]
  have hbd := (WA.ok_iff.1 oka).1
  have hL8 : a.L ≤ 8 := by unfold WA.L; omega
  have hL1 : 1 ≤ a.L := by unfold WA.L; omega
  have hlet : a.letters = (a.L : Int) := by unfold WA.L; omega
  rw [hLL] at hCb
  have hIf := fun (w'' : World) (hk : Kept w4 w'' (fun k => k < w2.heap.size)) => (hI w'' hk).imp id fun h => hLL ▸ h
  obtain ⟨⟨E1, e1, E2, e2, E3, e3, rfl, -⟩, F1, f1, F2, f2, F3, f3, rfl, -⟩ := hIf w4 (Kept.refl _ _)
  have hdo := hide hCa.ok
  have hdo' := hide hCb.ok
  have hCaH := hide hCa
  have hCbH := hide hCb
  have hacH := hide hac
  have hbcH := hide hbc
  have hIH := hide hIf
  have hletH := hide hlet
  have hpH : Hid (ac.length * bc.length ≤ 160000) := hide (Nat.mul_le_mul hac hbc)
  generalize (plainW a.L t ac).letters = x0 at hIH ⊢
  generalize (plainW a.L t ac).states = x1 at hIH ⊢
  generalize (plainW a.L t ac).start.length = n1 at hIH ⊢
  generalize (plainW a.L t ac).accept.length = n2 at hIH ⊢
  generalize (plainW a.L t ac).edges.length = n3 at hIH ⊢
  generalize (plainW a.L u bc).letters = y0 at hIH ⊢
  generalize (plainW a.L u bc).states = y1 at hIH ⊢
  generalize (plainW a.L u bc).start.length = m1 at hIH ⊢
  generalize (plainW a.L u bc).accept.length = m2 at hIH ⊢
  generalize (plainW a.L u bc).edges.length = m3 at hIH ⊢
  clear hbo oka okb hle hLL hbd hlet hCa hCb hac hbc hI hIf hok hpe hx hy
  obtain ⟨w5, w6, wA, wB, hw5, hw6, hwA, hwB, hx6, hyA, hxB, hyB, hbB, l5⟩ := two_box5 w4 (.int .i64 x0) (.int .i64 x1) (.slice E1 n1 e1) (.slice E2 n2 e2) (.slice E3 n3 e3) (.int .i64 y0) (.int .i64 y1) (.slice F1 m1 f1) (.slice F2 m2 f2) (.slice F3 m3 f3)
  have bsB := hbB.size
  have b0B := hide (b04.out.trans (hbB.mono b04.out.size))
  have hXB := hide (hX4.out.below hbB)
  have i1 := hx6.frozen
  have i2 := hx6.lt
  have i3 := hx6.cell
  have i4 := hyA.frozen
  have i5 := hyA.lt
  have i6 := hyA.cell
  have i7 := hxB.cell
  have i8 := hyB.cell
  have hbBH := hide hbB
  have k1 := (hXB.out.below (drewB wB)).cell
  have k7 := (hxB.below (drewB wB)).cell
  have k8 := (hyB.below (drewB wB)).cell
  unfold set5 at hwA hwB
  clear hx6 hyA hxB hyB hbB
  have bdB := hide (b0B.out.trans ((drewB wB).mono b0B.out.size))
  have hDB := hIH.out wB.drew (((Kept.of_below hbBH.out (fun _ => False)).trans (Kept.of_below (drewB wB) (fun _ => False)) fun _ _ e => e.elim).mono fun _ _ e => e.elim)
  have hjn := join_any (o := 3) hDB.1 hDB.2 hdo.out hdo'.out hacH.out hbcH.out hL1 hL8
  clear hDB
  go_wp2_with fail
  refine Reg.cC [0, 0, 3, 0, 8, 31, 63, 127, 127, 255, 1023] [0, 1, 3, 4, 2, 5, 6, 7, 8, 9, 10] ?_
  refine Reg.rest_walk' [0, 1, 3, 4] [2, 5, 6, 7, 8, 9, 10] rfl (by kernel_rfl) ?_
  intro Qf hQf
  go_wp2_with fail
  first | refine hQf _ _ ?_ | skip
  try clear hQf
  refine Reg.rest_act' 2 [5, 6, 7, 8, 9, 10] [4] rfl (by kernel_rfl) ?_
  intro Qf hQf
  simp only [gT, gS, gZ]
  go_wp2_with fail
  refine Calls.ret hjn ?_
  rintro d w7 ⟨hb7, all, hD, hal, hO⟩
  have b07 := hide (bdB.out.trans (hb7.mono bdB.out.size))
  replace hal : all.length ≤ 160000 := Nat.le_trans hal hpH.out
  have hdk : DOK a.L (rowsG a.L (dPr t u) all all.length) (all.map (accPr (hldF 3) ac bc)) := rowsG_dok hD (by simp)
  have hag := hO.agg
  obtain ⟨T1, k2, T2, k3, rfl⟩ := hag
  have hfi := refFirst_any (tab_own hO hdk (by rw [List.length_map]; omega) hL8) hL8 (by rw [List.length_map]; omega)
  rw [← hletH.out] at hfi
  have hlang := hide (fun (z : List Nat) (hz : okW a.L z) => jn_lang (o := 3) hCaH.out hCbH.out hD hz)
  generalize (rowsG a.L (dPr t u) all all.length).length = lr at *
  generalize (all.map (accPr (hldF 3) ac bc)).length = lb at *
  go_wp2_with fail
  first | refine hQf _ _ ⟨Reg.same_below hb7 [4] rfl, ?_⟩ | refine ⟨Reg.same_below hb7 [4] rfl, ?_⟩
  try clear hQf
  clear hjn hb7 hD hO hdk
  refine Reg.rest_act' 5 [6, 7, 8, 9, 10] [] rfl (by kernel_rfl) ?_
  intro Qf hQf
  simp only [gT, gS, gZ]
  go_wp2_with fail
  refine Calls.ret hfi ?_
  rintro r w8 ⟨hb8, hr⟩
  have b08 := hide (b07.out.trans (hb8.mono b07.out.size))
  clear hfi hb8
  rcases hr with ⟨hn, rfl⟩ | ⟨z, A, c, hf, rfl, hSl⟩
  ·have hnH := hide hn
   clear hn
   go_wp2_with fail
   first | refine hQf _ _ ⟨Reg.nm, ?_⟩ | refine ⟨Reg.nm, ?_⟩
   try clear hQf
   refine Reg.rest_walk' [6, 7, 8, 9, 10] [] rfl (by kernel_rfl) ?_
   intro Qf hQf
   go_wp2_with fail
   first | refine hQf _ _ ?_ | skip
   try clear hQf
   refine Reg.rest_end ?_
   go_wp2_with fail
   refine bodyPost_ret (v := .tuple #[.bool true, .slice none 0 0, .int .i64 0]) (by simp [results, Tryz.results17, go_sem]) rfl ⟨b08.out, true, none, 0, [], 0, rfl, Sl.nil rfl, hpeH.out, fun h => (h rfl).elim, fun _ => .inl ⟨rfl, rfl, fun z hz h => ?_⟩⟩
   have h1 := hnH.out z hz
   rw [hlang.out z hz, h] at h1
   simpa [hldF] using h1
  ·have hfH := hide hf
   have hSlH := hide hSl
   clear hf hSl
   go_wp2_with fail
   first | refine hQf _ _ ⟨Reg.nm, ?_⟩ | refine ⟨Reg.nm, ?_⟩
   try clear hQf
   refine Reg.rest_walk' [6, 7, 8, 9, 10] [] rfl (by kernel_rfl) ?_
   intro Qf hQf
   go_wp2_with fail
   first | refine hQf _ _ ?_ | skip
   try clear hQf
   refine Reg.rest_end ?_
   go_wp2_with fail
   refine bodyPost_ret (v := .tuple #[.bool false, .slice A z.length c, .int .i64 0]) (by simp [results, Tryz.results17, go_sem]) rfl ⟨b08.out, false, A, c, z, 0, rfl, hSlH.out, hpeH.out, fun h => (h rfl).elim, fun _ => .inr ⟨rfl, hfH.out.congr fun v hv => (hlang.out v hv).trans ?_⟩⟩
   simp [hldF]
 ·obtain ⟨x0, x1, E1, n1, e1, E2, n2, e2, E3, n3, e3, rfl⟩ := hx
  obtain ⟨y0, y1, F1, m1, f1, F2, m2, f2, F3, m3, f3, rfl⟩ := hy
  obtain ⟨w5, w6, wA, wB, hw5, hw6, hwA, hwB, hx6, hyA, hxB, hyB, hbB, l5⟩ := two_box5 w4 (.int .i64 x0) (.int .i64 x1) (.slice E1 n1 e1) (.slice E2 n2 e2) (.slice E3 n3 e3) (.int .i64 y0) (.int .i64 y1) (.slice F1 m1 f1) (.slice F2 m2 f2) (.slice F3 m3 f3)
  have b0B := hide (b04.out.trans (hbB.mono b04.out.size))
  have i1 := hx6.frozen
  have i2 := hx6.lt
  have i3 := hx6.cell
  have i4 := hyA.frozen
  have i5 := hyA.lt
  have i6 := hyA.cell
  have hzH := hide hz
  have hz2 : (e == 0) = false := by simpa using hz
  unfold set5 at hwA hwB
  clear hx6 hyA hxB hyB hbB hok hpe
  go_wp2_with fail
  refine bodyPost_ret (v := .tuple #[.bool false, .slice none 0 0, .int .i64 e]) (by simp [results, Tryz.results17, go_sem]) rfl ⟨b0B.out, false, none, 0, [], e, rfl, Sl.nil rfl, hpeH.out, fun _ => ⟨rfl, rfl⟩, fun h => (hzH.out h).elim⟩
theorem refSame_any {vA vB : Value} {a b : WA} {w : World} (hA : IsWA w w.heap.size vA a) (hB : IsWA w w.heap.size vB b) :
  Calls Tryz.prog 19 #[vA, vB] w (Ret fun r w' => SameRet w a b r w') := by
 have hAH := hide hA
 have hBH := hide hB
 obtain ⟨A1, c1, A2, c2, A3, c3, rfl, -⟩ := hA
 obtain ⟨B1, d1, B2, d2, B3, d3, rfl, -⟩ := hB
 obtain ⟨w1, hw1, hb1, hB1, -⟩ := box_blk w #[.int .i64 a.letters, .int .i64 a.states, .slice A1 a.start.length c1, .slice A2 a.accept.length c2, .slice A3 a.edges.length c3] 28
 obtain ⟨w2, hw2, hb2, hB2, -⟩ := box_blk w1 #[.int .i64 b.letters, .int .i64 b.states, .slice B1 b.start.length d1, .slice B2 b.accept.length d2, .slice B3 b.edges.length d3] 28
 have s1 := hb1.size
 have b02 := hide (hb1.trans (hb2.mono s1))
 have hX2 := hide (hB1.below hb2)
 have fx := hX2.out.cell
 have fy := hB2.cell
 have hpr := refPair_any (hAH.out.keep (w' := w2) (fun p hp => b02.out.cell hp) b02.out.size) (hBH.out.keep (w' := w2) (fun p hp => b02.out.cell hp) b02.out.size)
 clear hb1 hb2 hB1 hB2
 go_enter Tryz.func19, Tryz.ntmps19
 go_wp2_with fail
 refine Calls.ret hpr ?_
 rintro r w4 ⟨hb4, x, y, e, hx, hy, rfl, hpe, hok⟩
 have s4 := hb4.size
 have b04 := hide (b02.out.trans (hb4.mono b02.out.size))
 have hX4 := hide (hX2.out.below hb4)
 have hpeH := hide hpe
 clear hpr hb4 fx fy
 by_cases hz : e = 0
 ·subst hz
  obtain ⟨t, ac, u, bc, hCa, hCb, hac, hbc, hI⟩ := hok rfl
  have hbo : a.both b = true := by
   rcases hpe with ⟨-, h⟩ | ⟨-, -, h⟩ | ⟨h, -⟩
   ·exact absurd h (by decide)
   ·exact absurd h (by decide)
   ·exact h
  obtain ⟨oka, okb, hle⟩ := WA.both_iff.1 hbo
  have hLL : b.L = a.L := by unfold WA.L; rw [hle]
  have hbd := (WA.ok_iff.1 oka).1
  have hL8 : a.L ≤ 8 := by unfold WA.L; omega
  have hL1 : 1 ≤ a.L := by unfold WA.L; omega
  have hlet : a.letters = (a.L : Int) := by unfold WA.L; omega
  rw [hLL] at hCb
  have hIf := fun (w'' : World) (hk : Kept w4 w'' (fun k => k < w2.heap.size)) => (hI w'' hk).imp id fun h => hLL ▸ h
  obtain ⟨⟨E1, e1, E2, e2, E3, e3, rfl, -⟩, F1, f1, F2, f2, F3, f3, rfl, -⟩ := hIf w4 (Kept.refl _ _)
  have hdo := hide hCa.ok
  have hdo' := hide hCb.ok
  have hCaH := hide hCa
  have hCbH := hide hCb
  have hacH := hide hac
  have hbcH := hide hbc
  have hIH := hide hIf
  have hletH := hide hlet
  have hpH : Hid (ac.length * bc.length ≤ 160000) := hide (Nat.mul_le_mul hac hbc)
  generalize (plainW a.L t ac).letters = x0 at hIH ⊢
  generalize (plainW a.L t ac).states = x1 at hIH ⊢
  generalize (plainW a.L t ac).start.length = n1 at hIH ⊢
  generalize (plainW a.L t ac).accept.length = n2 at hIH ⊢
  generalize (plainW a.L t ac).edges.length = n3 at hIH ⊢
  generalize (plainW a.L u bc).letters = y0 at hIH ⊢
  generalize (plainW a.L u bc).states = y1 at hIH ⊢
  generalize (plainW a.L u bc).start.length = m1 at hIH ⊢
  generalize (plainW a.L u bc).accept.length = m2 at hIH ⊢
  generalize (plainW a.L u bc).edges.length = m3 at hIH ⊢
  clear hbo oka okb hle hLL hbd hlet hCa hCb hac hbc hI hIf hok hpe hx hy
  obtain ⟨w5, w6, wA, wB, hw5, hw6, hwA, hwB, hx6, hyA, hxB, hyB, hbB, l5⟩ := two_box5 w4 (.int .i64 x0) (.int .i64 x1) (.slice E1 n1 e1) (.slice E2 n2 e2) (.slice E3 n3 e3) (.int .i64 y0) (.int .i64 y1) (.slice F1 m1 f1) (.slice F2 m2 f2) (.slice F3 m3 f3)
  have bsB := hbB.size
  have b0B := hide (b04.out.trans (hbB.mono b04.out.size))
  have hXB := hide (hX4.out.below hbB)
  have i1 := hx6.frozen
  have i2 := hx6.lt
  have i3 := hx6.cell
  have i4 := hyA.frozen
  have i5 := hyA.lt
  have i6 := hyA.cell
  have i7 := hxB.cell
  have i8 := hyB.cell
  have hbBH := hide hbB
  have k1 := (hXB.out.below (drewB wB)).cell
  have k7 := (hxB.below (drewB wB)).cell
  have k8 := (hyB.below (drewB wB)).cell
  unfold set5 at hwA hwB
  clear hx6 hyA hxB hyB hbB
  have bdB := hide (b0B.out.trans ((drewB wB).mono b0B.out.size))
  have hDB := hIH.out wB.drew (((Kept.of_below hbBH.out (fun _ => False)).trans (Kept.of_below (drewB wB) (fun _ => False)) fun _ _ e => e.elim).mono fun _ _ e => e.elim)
  have hjn := join_any (o := 4) hDB.1 hDB.2 hdo.out hdo'.out hacH.out hbcH.out hL1 hL8
  clear hDB
  go_wp2_with fail
  refine Reg.cC [0, 0, 3, 0, 8, 31, 63, 127, 127, 255, 1023] [0, 1, 3, 4, 2, 5, 6, 7, 8, 9, 10] ?_
  refine Reg.rest_walk' [0, 1, 3, 4] [2, 5, 6, 7, 8, 9, 10] rfl (by kernel_rfl) ?_
  intro Qf hQf
  go_wp2_with fail
  first | refine hQf _ _ ?_ | skip
  try clear hQf
  refine Reg.rest_act' 2 [5, 6, 7, 8, 9, 10] [4] rfl (by kernel_rfl) ?_
  intro Qf hQf
  simp only [gT, gS, gZ]
  go_wp2_with fail
  refine Calls.ret hjn ?_
  rintro d w7 ⟨hb7, all, hD, hal, hO⟩
  have b07 := hide (bdB.out.trans (hb7.mono bdB.out.size))
  replace hal : all.length ≤ 160000 := Nat.le_trans hal hpH.out
  have hdk : DOK a.L (rowsG a.L (dPr t u) all all.length) (all.map (accPr (hldF 4) ac bc)) := rowsG_dok hD (by simp)
  have hag := hO.agg
  obtain ⟨T1, k2, T2, k3, rfl⟩ := hag
  have hfi := refFirst_any (tab_own hO hdk (by rw [List.length_map]; omega) hL8) hL8 (by rw [List.length_map]; omega)
  rw [← hletH.out] at hfi
  have hlang := hide (fun (z : List Nat) (hz : okW a.L z) => jn_lang (o := 4) hCaH.out hCbH.out hD hz)
  generalize (rowsG a.L (dPr t u) all all.length).length = lr at *
  generalize (all.map (accPr (hldF 4) ac bc)).length = lb at *
  go_wp2_with fail
  first | refine hQf _ _ ⟨Reg.same_below hb7 [4] rfl, ?_⟩ | refine ⟨Reg.same_below hb7 [4] rfl, ?_⟩
  try clear hQf
  clear hjn hb7 hD hO hdk
  refine Reg.rest_act' 5 [6, 7, 8, 9, 10] [] rfl (by kernel_rfl) ?_
  intro Qf hQf
  simp only [gT, gS, gZ]
  go_wp2_with fail
  refine Calls.ret hfi ?_
  rintro r w8 ⟨hb8, hr⟩
  have b08 := hide (b07.out.trans (hb8.mono b07.out.size))
  clear hfi hb8
  rcases hr with ⟨hn, rfl⟩ | ⟨z, A, c, hf, rfl, hSl⟩
  ·have hnH := hide hn
   clear hn
   go_wp2_with fail
   first | refine hQf _ _ ⟨Reg.nm, ?_⟩ | refine ⟨Reg.nm, ?_⟩
   try clear hQf
   refine Reg.rest_walk' [6, 7, 8, 9, 10] [] rfl (by kernel_rfl) ?_
   intro Qf hQf
   go_wp2_with fail
   first | refine hQf _ _ ?_ | skip
   try clear hQf
   refine Reg.rest_end ?_
   go_wp2_with fail
   refine bodyPost_ret (v := .tuple #[.bool true, .int .i64 0]) (by simp [results, Tryz.results19, go_sem]) rfl ⟨b08.out, true, 0, rfl, hpeH.out, fun h => (h rfl).elim, fun _ => ⟨fun _ z hz => ?_, fun _ => rfl⟩⟩
   have h1 := hnH.out z hz
   rw [hlang.out z hz] at h1
   simpa [hldF] using h1
  ·have hfH := hide hf
   have hSlH := hide hSl
   clear hf hSl
   go_wp2_with fail
   first | refine hQf _ _ ⟨Reg.nm, ?_⟩ | refine ⟨Reg.nm, ?_⟩
   try clear hQf
   refine Reg.rest_walk' [6, 7, 8, 9, 10] [] rfl (by kernel_rfl) ?_
   intro Qf hQf
   go_wp2_with fail
   first | refine hQf _ _ ?_ | skip
   try clear hQf
   refine Reg.rest_end ?_
   go_wp2_with fail
   refine bodyPost_ret (v := .tuple #[.bool false, .int .i64 0]) (by simp [results, Tryz.results19, go_sem]) rfl ⟨b08.out, false, 0, rfl, hpeH.out, fun h => (h rfl).elim, fun _ => ⟨fun h => (by cases h), fun h => ?_⟩⟩
   have h1 := (hlang.out z hfH.out.1).symm.trans hfH.out.2.1
   rw [h z hfH.out.1] at h1
   simp [hldF] at h1
 ·obtain ⟨x0, x1, E1, n1, e1, E2, n2, e2, E3, n3, e3, rfl⟩ := hx
  obtain ⟨y0, y1, F1, m1, f1, F2, m2, f2, F3, m3, f3, rfl⟩ := hy
  obtain ⟨w5, w6, wA, wB, hw5, hw6, hwA, hwB, hx6, hyA, hxB, hyB, hbB, l5⟩ := two_box5 w4 (.int .i64 x0) (.int .i64 x1) (.slice E1 n1 e1) (.slice E2 n2 e2) (.slice E3 n3 e3) (.int .i64 y0) (.int .i64 y1) (.slice F1 m1 f1) (.slice F2 m2 f2) (.slice F3 m3 f3)
  have b0B := hide (b04.out.trans (hbB.mono b04.out.size))
  have i1 := hx6.frozen
  have i2 := hx6.lt
  have i3 := hx6.cell
  have i4 := hyA.frozen
  have i5 := hyA.lt
  have i6 := hyA.cell
  have hzH := hide hz
  have hz2 : (e == 0) = false := by simpa using hz
  unfold set5 at hwA hwB
  clear hx6 hyA hxB hyB hbB hok hpe
  go_wp2_with fail
  refine bodyPost_ret (v := .tuple #[.bool false, .int .i64 e]) (by simp [results, Tryz.results19, go_sem]) rfl ⟨b0B.out, false, e, rfl, hpeH.out, fun _ => rfl, fun h => (hzH.out h).elim⟩
end Go.Proofs.YtakpmdmjbgipiaaGreatDoor
namespace Go.Proofs.YtakpmdmjbgipiaaGreatDoor
open Go.RowKit
set_option maxHeartbeats 16000000
set_option maxRecDepth 100000
theorem pErr.unique {a b : WA} {e e' : Int} (h : pErr a b e) (h' : pErr a b e') : e = e' := by
 rcases h with ⟨h1, rfl⟩ | ⟨h1, h2, rfl⟩ | ⟨h1, h2, h3, rfl⟩ <;> rcases h' with ⟨g1, rfl⟩ | ⟨g1, g2, rfl⟩ | ⟨g1, g2, g3, rfl⟩ <;> first | rfl | exact absurd (h1.symm.trans g1) (by decide) | (rcases h2 with h2 | h2 <;> first | exact (g2 h2).elim | exact (g3 h2).elim) | (rcases g2 with g2 | g2 <;> first | exact (h2 g2).elim | exact (h3 g2).elim)
theorem IncRet.get {w w' : World} {a b : WA} {r : Value} (h : IncRet w a b r w') : Below w.heap.size w w' ∧ ∃ (x : Bool) (A : Option Addr) (c : Nat) (z : List Nat) (e : Int), r = .tuple #[.bool x, .slice A z.length c, .int .i64 e] ∧ Sl w' w'.heap.size 1 encI A (natL z) ∧
  (∀ (w2 w2' : World) (r2 : Value), IncRet w2 a b r2 w2' → Below w2.heap.size w2 w2' ∧ ∃ (A2 : Option Addr) (k : Nat), r2 = .tuple #[.bool x, .slice A2 z.length k, .int .i64 e] ∧ Sl w2' w2'.heap.size 1 encI A2 (natL z)) := by
 obtain ⟨hb, x, A, c, z, e, rfl, hS, hp, h1, h2⟩ := h
 refine ⟨hb, x, A, c, z, e, rfl, hS, fun w2 w2' r2 h' => ?_⟩
 obtain ⟨hb', x', A', c', z', e', rfl, hS', hp', h1', h2'⟩ := h'
 have he := hp.unique hp'
 subst he
 have hxz : x = x' ∧ z = z' := by
  by_cases h0 : e = 0
  ·rcases h2 h0 with ⟨q1, q2, q3⟩ | ⟨q1, q2⟩ <;> rcases h2' h0 with ⟨r1, r2, r3⟩ | ⟨r1, r2⟩
   ·exact ⟨by rw [q1, r1], by rw [q2, r2]⟩
   ·have h3 := q3 z' r2.1
    have h4 := r2.2.1
    simp only [Bool.and_eq_true, Bool.not_eq_true'] at h4
    rw [h3 h4.1] at h4
    exact absurd h4.2 (by decide)
   ·have h3 := r3 z q2.1
    have h4 := q2.2.1
    simp only [Bool.and_eq_true, Bool.not_eq_true'] at h4
    rw [h3 h4.1] at h4
    exact absurd h4.2 (by decide)
   ·exact ⟨by rw [q1, r1], q2.unique r2 fun _ _ => rfl⟩
  ·exact ⟨by rw [(h1 h0).1, (h1' h0).1], by rw [(h1 h0).2, (h1' h0).2]⟩
 obtain ⟨rfl, rfl⟩ := hxz
 exact ⟨hb', A', c', rfl, hS'⟩
theorem SameRet.get {w w' : World} {a b : WA} {r : Value} (h : SameRet w a b r w') : Below w.heap.size w w' ∧ ∃ (x : Bool) (e : Int), r = .tuple #[.bool x, .int .i64 e] ∧
  (∀ (w2 w2' : World) (r2 : Value), SameRet w2 a b r2 w2' → Below w2.heap.size w2 w2' ∧ r2 = .tuple #[.bool x, .int .i64 e]) := by
 obtain ⟨hb, x, e, rfl, hp, h1, h2⟩ := h
 refine ⟨hb, x, e, rfl, fun w2 w2' r2 h' => ?_⟩
 obtain ⟨hb', x', e', rfl, hp', h1', h2'⟩ := h'
 have he := hp.unique hp'
 subst he
 have hx : x = x' := by
  by_cases h0 : e = 0
  ·have := (h2 h0).trans (h2' h0).symm
   cases x <;> cases x' <;> simp at this ⊢
  ·rw [h1 h0, h1' h0]
 subst hx
 exact ⟨hb', rfl⟩
theorem lawIncludes {vA vB : Value} {a b : WA} {w : World} (hA : IsWA w w.heap.size vA a) (hB : IsWA w w.heap.size vB b) (hT : PowT w) :
  Calls Tryz.prog 5 #[vA, vB] w (Ret fun v w' => v = .bool true ∧ Below w.heap.size w w') := by
 have hAH := hide hA
 have hBH := hide hB
 obtain ⟨A1, c1, A2, c2, A3, c3, rfl, -⟩ := hA
 obtain ⟨B1, d1, B2, d2, B3, d3, rfl, -⟩ := hB
 obtain ⟨w1, hw1, hb1, hB1, hk1⟩ := box_blk w #[.int .i64 a.letters, .int .i64 a.states, .slice A1 a.start.length c1, .slice A2 a.accept.length c2, .slice A3 a.edges.length c3] 28
 obtain ⟨w2, hw2, hb2, hB2, hk2⟩ := box_blk w1 #[.int .i64 b.letters, .int .i64 b.states, .slice B1 b.start.length d1, .slice B2 b.accept.length d2, .slice B3 b.edges.length d3] 28
 have s1 := hb1.size
 have b02 := hide (hb1.trans (hb2.mono s1))
 have hBa2 := hide (hB1.below hb2)
 have hBb2 := hide hB2
 have hTH := hide hT
 have f1 := hBa2.out.cell
 have f2 := hBb2.out.cell
 have hbig := Big_any (hAH.out.keep (w' := w2) (fun p hp => b02.out.cell hp) b02.out.size)
 clear hk1 hk2 hb1 hb2 hB1 hB2 hT
 go_enter Tryz.func5, Tryz.ntmps5
 go_wp2_with fail
 refine Calls.ret hbig ?_
 rintro r w3 ⟨rfl, hb3⟩
 have b03 := hide (b02.out.trans (hb3.mono b02.out.size))
 have hBa3 := hide (hBa2.out.below (hb3.mono (Nat.le_refl _)))
 have hBb3 := hide (hBb2.out.below (hb3.mono (Nat.le_refl _)))
 have f3 := hBb3.out.cell
 have f4 := hBa3.out.cell
 clear hbig hb3 f1 f2
 cases hbg : a.big with
 | true =>
  have hkn := known_any (hTH.out.below b03.out)
  go_wp2_with fail
  refine Calls.ret hkn ?_
  rintro r wk ⟨rfl, hbk⟩
  have hbK := hide (b03.out.trans (hbk.mono b03.out.size))
  clear hkn hbk
  go_wp2_with fail
  go_ret
  exact ⟨rfl, hbK.out⟩
 | false =>
  obtain ⟨g1, g2, g3⟩ := WA.big_not hbg
  have hbig := Big_any (hBH.out.keep (w' := w3) (fun p hp => b03.out.cell hp) b03.out.size)
  clear hbg
  go_wp2_with fail
  refine Calls.ret hbig ?_
  rintro r w4 ⟨rfl, hb4⟩
  have b04 := hide (b03.out.trans (hb4.mono b03.out.size))
  have hBa4 := hide (hBa3.out.below (hb4.mono (Nat.le_refl _)))
  have hBb4 := hide (hBb3.out.below (hb4.mono (Nat.le_refl _)))
  have f1 := hBa4.out.cell
  have f2 := hBb4.out.cell
  clear hbig hb4 f3 f4
  cases hbg : b.big with
  | true =>
   have hkn := known_any (hTH.out.below b04.out)
   go_wp2_with fail
   refine Calls.ret hkn ?_
   rintro r wk ⟨rfl, hbk⟩
   have hbK := hide (b04.out.trans (hbk.mono b04.out.size))
   clear hkn hbk
   go_wp2_with fail
   go_ret
   exact ⟨rfl, hbK.out⟩
  | false =>
   obtain ⟨k1, k2, k3⟩ := WA.big_not hbg
   have e1 : a.edges.length ≤ 3000000 := by omega
   have e2 : b.edges.length ≤ 3000000 := by omega
   have e3 : a.start.length ≤ 4000000 := by omega
   have e4 : b.start.length ≤ 4000000 := by omega
   have hE := hide (And.intro (And.intro e1 e3) (And.intro e2 e4))
   clear hbg g1 g2 g3 k1 k2 k3 e1 e2 e3 e4
   have hAx := hide (fun (wx : World) (hb : Below w.heap.size w wx) => hAH.out.keep (w' := wx) (fun p hp => hb.cell hp) hb.size)
   have hBx := hide (fun (wx : World) (hb : Below w.heap.size w wx) => hBH.out.keep (w' := wx) (fun p hp => hb.cell hp) hb.size)
   have hcall := Included_any (hAx.out w4 b04.out) (hBx.out w4 b04.out) hE.out.1.1 hE.out.1.2 hE.out.2.1 hE.out.2.2 (hTH.out.below b04.out)
   go_wp2_with fail
   refine Calls.ret hcall ?_
   intro r w5 hret
   obtain ⟨hb5, x, P, pc, z, e, rfl, hS, hoth⟩ := hret.get
   have hoth1 := hide hoth
   have hS1_5 := hide hS
   have b05 := hide (b04.out.trans (hb5.mono b04.out.size))
   have hBa5 := hide (hBa4.out.below (hb5.mono (Nat.le_refl _)))
   have hBb5 := hide (hBb4.out.below (hb5.mono (Nat.le_refl _)))
   have x5 := hBa5.out.cell
   have y5 := hBb5.out.cell
   obtain ⟨lz, hlz⟩ : ∃ n, n = z.length := ⟨_, rfl⟩
   have hlzH := hide hlz
   rw [← hlz] at ⊢
   clear hcall hret hb5 hS hoth hlz f1 f2
   have hcall := refIncluded_any (hAx.out w5 b05.out) (hBx.out w5 b05.out)
   go_wp2_with fail
   refine Calls.ret hcall ?_
   intro r w6 hret
   obtain ⟨hb6, Q, qc, rfl, hS⟩ := hoth1.out w5 w6 r hret
   have hS2_6 := hide hS
   have b06 := hide (b05.out.trans (hb6.mono b05.out.size))
   have hBa6 := hide (hBa5.out.below (hb6.mono (Nat.le_refl _)))
   have hBb6 := hide (hBb5.out.below (hb6.mono (Nat.le_refl _)))
   have hS1_6 := hide (hS1_5.out.keep (w' := w6) (fun p hp => hb6.cell hp) hb6.size)
   have x6 := hBa6.out.cell
   have y6 := hBb6.out.cell
   rw [← hlzH.out] at ⊢
   clear hcall hret hb6 hS x5 y5
   have hcall := Same_any (hAx.out w6 b06.out) (hBx.out w6 b06.out) hE.out.1.1 hE.out.1.2 hE.out.2.1 hE.out.2.2 (hTH.out.below b06.out)
   go_wp2_with fail
   refine Calls.ret hcall ?_
   intro r w7 hret
   obtain ⟨hb7, s, g, rfl, hoth⟩ := hret.get
   have hoth2 := hide hoth
   have b07 := hide (b06.out.trans (hb7.mono b06.out.size))
   have hBa7 := hide (hBa6.out.below (hb7.mono (Nat.le_refl _)))
   have hBb7 := hide (hBb6.out.below (hb7.mono (Nat.le_refl _)))
   have hS1_7 := hide (hS1_6.out.keep (w' := w7) (fun p hp => hb7.cell hp) hb7.size)
   have hS2_7 := hide (hS2_6.out.keep (w' := w7) (fun p hp => hb7.cell hp) hb7.size)
   have x7 := hBa7.out.cell
   have y7 := hBb7.out.cell
   clear hcall hret hb7 hoth x6 y6
   have hcall := refSame_any (hAx.out w7 b07.out) (hBx.out w7 b07.out)
   go_wp2_with fail
   refine Calls.ret hcall ?_
   intro r w8 hret
   obtain ⟨hb8, rfl⟩ := hoth2.out w7 w8 r hret
   have b08 := hide (b07.out.trans (hb8.mono b07.out.size))
   have hBa8 := hide (hBa7.out.below (hb8.mono (Nat.le_refl _)))
   have hBb8 := hide (hBb7.out.below (hb8.mono (Nat.le_refl _)))
   have hS1_8 := hide (hS1_7.out.keep (w' := w8) (fun p hp => hb8.cell hp) hb8.size)
   have hS2_8 := hide (hS2_7.out.keep (w' := w8) (fun p hp => hb8.cell hp) hb8.size)
   have x8 := hBa8.out.cell
   have y8 := hBb8.out.cell
   have hsi := sameInts_any (c1 := pc) (c2 := qc) hS1_8.out hS2_8.out (Nat.le_refl _) (Nat.le_refl _)
   rw [decide_eq_true (rfl : natL z = natL z), show (natL z).length = lz from by rw [hlzH.out]; simp [natL]] at hsi
   have hxx : (x == x) = true := by simp
   have hss : (s == s) = true := by simp
   have hee : (e == e) = true := by simp
   have hgg : (g == g) = true := by simp
   clear hcall hret hb8 x7 y7 x8 y8
   go_wp2_with fail
   refine Calls.ret hsi ?_
   rintro r wA ⟨rfl, hbA⟩
   have b0A := hide (b08.out.trans (hbA.mono b08.out.size))
   clear hsi hbA
   have hkn := known_any (hTH.out.below b0A.out)
   go_wp2_with fail
   refine Calls.ret hkn ?_
   rintro r wk ⟨rfl, hbk⟩
   have hbK := hide (b0A.out.trans (hbk.mono b0A.out.size))
   clear hkn hbk
   go_wp2_with fail
   go_ret
   exact ⟨rfl, hbK.out⟩
end Go.Proofs.YtakpmdmjbgipiaaGreatDoor
