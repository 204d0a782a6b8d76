/-
  Part JO of a proof.
-/
import Derived.Test.YtakpmdmjbgipiaaGreatDoorPA
import Derived.Test.YtakpmdmjbgipiaaGreatDoorJN
import Derived.Test.YtakpmdmjbgipiaaGreatDoorJK
set_option maxHeartbeats 16000000
set_option maxRecDepth 100000
set_option linter.unusedVariables false
set_option linter.unusedSimpArgs false
namespace Go.Proofs.YtakpmdmjbgipiaaGreatDoor
open Go.RowKit
set_option maxHeartbeats 16000000
set_option maxRecDepth 100000
theorem two_box5 (w : World) (x0 x1 x2 x3 x4 y0 y1 y2 y3 y4 : Value) : ∃ w5 w6 wA wB, w.alloc (.cells zero25 28) = w5 ∧ w5.alloc (.cells zero25 28) = w6 ∧ set5 w6 w.heap.size x0 x1 x2 x3 x4 = wA ∧ set5 wA w5.heap.size y0 y1 y2 y3 y4 = wB ∧ Blk w6 w.heap.size 28 zero25 ∧ Blk wA w5.heap.size 28 zero25 ∧ Blk wB w.heap.size 28 #[x0, x1, x2, x3, x4] ∧ Blk wB w5.heap.size 28 #[y0, y1, y2, y3, y4] ∧ Below w.heap.size w wB ∧ w.heap.size < w5.heap.size := by
 obtain ⟨w5, hw5, hb5, hB5, -⟩ := box_blk w zero25 28
 obtain ⟨w6, hw6, hb6, hB6, -⟩ := box_blk w5 zero25 28
 have l5 := hB5.lt
 have hx := hB5.below hb6
 obtain ⟨wA, wB, hwA, hwB, hyA, hxB, hyB, hK, -⟩ := two_set hx hB6 (by omega) x0 x1 x2 x3 x4 y0 y1 y2 y3 y4
 have s5 := hb5.size
 have s6 := hb6.size
 exact ⟨w5, w6, wA, wB, hw5, hw6, hwA, hwB, hx, hyA, hxB, hyB, (hb5.trans (hb6.mono s5)).trans (hK.below (by omega) fun b hb e => by omega), l5⟩
theorem refJoined_any {vA vB : Value} {a b : WA} {w : World} {o : Int} {op : Bool → Bool → Bool} (hop : hldF o = op) (hA : IsWA w w.heap.size vA a) (hB : IsWA w w.heap.size vB b) :
  Calls Tryz.prog 34 #[vA, vB, .int .i64 o] w (Ret fun r w' => CombRet op w a b r w') := by
 have hAH := hide hA
 have hBH := hide hB
 have hopH := hide hop
 obtain ⟨A1, c1, A2, c2, A3, c3, rfl, -⟩ := hA
 obtain ⟨B1, d1, B2, d2, B3, d3, rfl, -⟩ := hB
 obtain ⟨w1, hw1, hb1, hB1, -⟩ := box_blk w #[.int .i64 a.letters, .int .i64 a.states, .slice A1 a.start.length c1, .slice A2 a.accept.length c2, .slice A3 a.edges.length c3] 28
 obtain ⟨w2, hw2, hb2, hB2, -⟩ := box_blk w1 #[.int .i64 b.letters, .int .i64 b.states, .slice B1 b.start.length d1, .slice B2 b.accept.length d2, .slice B3 b.edges.length d3] 28
 obtain ⟨w3, hw3, hb3, hB3, -⟩ := box_blk w2 zero25 28
 have s1 := hb1.size
 have s2 := hb2.size
 have s3 := hb3.size
 have l2 := hB2.lt
 have l3 := hB3.lt
 have b13 := hb2.trans (hb3.mono s2)
 have b03 := hide (hb1.trans (b13.mono s1))
 have hX3 := hide (hB1.below b13)
 have hY3 := hide (hB2.below hb3)
 have hR3 := hide hB3
 have fx := hX3.out.cell
 have fy := hY3.out.cell
 have hpr := refPair_any (hAH.out.keep (w' := w3) (fun p hp => b03.out.cell hp) b03.out.size) (hBH.out.keep (w' := w3) (fun p hp => b03.out.cell hp) b03.out.size)
 clear hb1 hb2 hb3 hB1 hB2 hB3 b13 hop
 go_enter Tryz.func34, Tryz.ntmps34
 go_wp2_with fail
 refine Calls.ret hpr ?_
 rintro r w4 ⟨hb4, x, y, e, hx, hy, rfl, hpe, hok⟩
 have s4 := hb4.size
 have b04 := hide (b03.out.trans (hb4.mono b03.out.size))
 have hX4 := hide (hX3.out.below hb4)
 have hR4 := hide (hR3.out.below hb4)
 have hlr := hR3.out.lt
 clear hpr hb4 fx fy
 by_cases hz : e = 0
 ·subst hz
  obtain ⟨t, ac, u, bc, hCa, hCb, hac, hbc, hI⟩ := hok rfl
  have hbo : a.both b = true := by
   rcases hpe with ⟨-, h⟩ | ⟨-, -, h⟩ | ⟨h, -⟩
   ·exact absurd h (by decide)
   ·exact absurd h (by decide)
   ·exact h
  have hla : ¬ a.nf.Large 400 ∧ ¬ b.nf.Large 400 := by
   rcases hpe with ⟨-, h⟩ | ⟨-, -, h⟩ | ⟨-, h, h', -⟩
   ·exact absurd h (by decide)
   ·exact absurd h (by decide)
   ·exact ⟨h, h'⟩
  obtain ⟨oka, okb, hle⟩ := WA.both_iff.1 hbo
  have hLL : b.L = a.L := by unfold WA.L; rw [hle]
  have hbd := (WA.ok_iff.1 oka).1
  have hL8 : a.L ≤ 8 := by unfold WA.L; omega
  have hL1 : 1 ≤ a.L := by unfold WA.L; omega
  have hlet : a.letters = (a.L : Int) := by unfold WA.L; omega
  rw [hLL] at hCb
  have hIf := fun (w'' : World) (hk : Kept w4 w'' (fun k => k < w3.heap.size)) => (hI w'' hk).imp id fun h => hLL ▸ h
  obtain ⟨⟨E1, e1, E2, e2, E3, e3, rfl, -⟩, F1, f1, F2, f2, F3, f3, rfl, -⟩ := hIf w4 (Kept.refl _ _)
  have hdo := hide hCa.ok
  have hdo' := hide hCb.ok
  have hCaH := hide hCa
  have hCbH := hide hCb
  have hboH := hide hbo
  have hlaH := hide hla
  have hacH := hide hac
  have hbcH := hide hbc
  have hIH := hide hIf
  have hletH := hide hlet
  have hLLH := hide hLL
  have hxs : (plainW a.L t ac).states = (ac.length : Int) := rfl
  have hys : (plainW a.L u bc).states = (bc.length : Int) := rfl
  rw [hxs] at hIH ⊢
  rw [hys] at hIH ⊢
  obtain ⟨na, hna⟩ : ∃ na, na = ac.length := ⟨_, rfl⟩
  obtain ⟨nb, hnb⟩ : ∃ nb, nb = bc.length := ⟨_, rfl⟩
  rw [← hna] at hIH hac ⊢
  rw [← hnb] at hIH hbc ⊢
  have hnaH := hide hna
  have hnbH := hide hnb
  have hmul : na * nb ≤ 160000 := Nat.mul_le_mul hac hbc
  have hmulI : (na : Int) * (nb : Int) = ((na * nb : Nat) : Int) := by rw [Int.natCast_mul]
  obtain ⟨nm, hnm⟩ : ∃ nm, nm = na * nb := ⟨_, rfl⟩
  rw [← hnm] at hmul hmulI
  have hnmH := hide hnm
  have hbigI := hide (show BigJ a b ↔ 400 < nm from by
   constructor
   ·rintro (h | h | ⟨t2, ac2, u2, bc2, k1, k2, k3⟩)
    ·exact (hla.1 h).elim
    ·exact (hla.2 h).elim
    ·rw [hLL] at k2
     obtain ⟨-, rfl⟩ := k1.unique hCa fun _ _ => rfl
     obtain ⟨-, rfl⟩ := k2.unique hCb fun _ _ => rfl
     rw [hnm, hna, hnb]; exact k3
   ·intro h
    exact .inr (.inr ⟨t, ac, u, bc, hCa, by rw [hLL]; exact hCb, by rw [← hna, ← hnb, ← hnm]; exact h⟩))
  generalize (plainW a.L t ac).letters = x0 at hIH ⊢
  generalize (plainW a.L t ac).start.length = n1 at hIH ⊢
  generalize (plainW a.L t ac).accept.length = n2 at hIH ⊢
  generalize (plainW a.L t ac).edges.length = n3 at hIH ⊢
  generalize (plainW a.L u bc).letters = y0 at hIH ⊢
  generalize (plainW a.L u bc).start.length = m1 at hIH ⊢
  generalize (plainW a.L u bc).accept.length = m2 at hIH ⊢
  generalize (plainW a.L u bc).edges.length = m3 at hIH ⊢
  clear hbo hla oka okb hle hLL hbd hlet hCa hCb hac hbc hI hIf hna hnb hnm hok hpe hx hy hxs hys
  obtain ⟨w5, w6, wA, wB, hw5, hw6, hwA, hwB, hx6, hyA, hxB, hyB, hbB, l5⟩ := two_box5 w4 (.int .i64 x0) (.int .i64 (na : Int)) (.slice E1 n1 e1) (.slice E2 n2 e2) (.slice E3 n3 e3) (.int .i64 y0) (.int .i64 (nb : Int)) (.slice F1 m1 f1) (.slice F2 m2 f2) (.slice F3 m3 f3)
  have bsB := hbB.size
  have b0B := hide (b04.out.trans (hbB.mono b04.out.size))
  have s0B := b0B.out.size
  have hRB := hide (hR4.out.below hbB)
  have hXB := hide (hX4.out.below hbB)
  have i1 := hx6.frozen
  have i2 := hx6.lt
  have i3 := hx6.cell
  have i4 := hyA.frozen
  have i5 := hyA.lt
  have i6 := hyA.cell
  have i7 := hxB.cell
  have i8 := hyB.cell
  have hbBH := hide hbB
  have hxBH := hide hxB
  have hyBH := hide hyB
  unfold set5 at hwA hwB
  clear hx6 hyA hxB hyB hbB
  by_cases hbig : 400 < nm
  ·have hbg := hide (hbigI.out.2 hbig)
   obtain ⟨wF, hwF, hBF, hKF⟩ := set5_facts hRB.out (.int .i64 0) (.int .i64 0) sn0 sn0 sn0
   have j1 := hRB.out.frozen
   have j2 := hRB.out.lt
   have j3 := hRB.out.cell
   have j4 := hBF.cell
   have hbF := hide (b0B.out.trans (hKF.below (by omega) fun b hb e => by omega))
   unfold set5 at hwF
   clear hBF hKF
   go_wp2_with fail
   refine bodyPost_ret (v := .tuple #[.agg zero25, .int .i64 4]) (by simp [results, Tryz.results34, go_sem, j4]) rfl ⟨hbF.out, .inr (.inl ⟨hboH.out, hbg.out, rfl⟩)⟩
  ·have hnbg := hide (fun h => hbig (hbigI.out.1 h))
   have k1 := (hXB.out.below (drewB wB)).cell
   have k7 := (hxBH.out.below (drewB wB)).cell
   have k8 := (hyBH.out.below (drewB wB)).cell
   have bdB := hide (b0B.out.trans ((drewB wB).mono b0B.out.size))
   have hDB := hIH.out wB.drew (((Kept.of_below hbBH.out (fun _ => False)).trans (Kept.of_below (drewB wB) (fun _ => False)) fun _ _ e => e.elim).mono fun _ _ e => e.elim)
   have hjn := join_any (o := o) hDB.1 hDB.2 hdo.out hdo'.out hacH.out hbcH.out hL1 hL8
   clear hDB
   go_wp2_with fail
   refine Reg.cC [0, 0, 0, 7, 0, 16, 63, 127, 255] [0, 1, 2, 4, 5, 3, 6, 7, 8] ?_
   refine Reg.rest_walk' [0, 1, 2, 4, 5] [3, 6, 7, 8] rfl (by kernel_rfl) ?_
   intro Qf hQf
   go_wp2_with fail
   first | refine hQf _ _ ?_ | skip
   try clear hQf
   refine Reg.rest_act' 3 [6, 7, 8] [5] rfl (by kernel_rfl) ?_
   intro Qf hQf
   simp only [gT, gS, gZ]
   go_wp2_with fail
   refine Calls.ret hjn ?_
   rintro d w7 ⟨hb7, all, hD, hal, hO⟩
   have b07 := hide (bdB.out.trans (hb7.mono bdB.out.size))
   rw [← hnaH.out, ← hnbH.out, ← hnmH.out] at hal
   replace hal : all.length ≤ 400 := by omega
   have hdk : DOK a.L (rowsG a.L (dPr t u) all all.length) (all.map (accPr (hldF o) ac bc)) := rowsG_dok hD (by simp)
   have hag := hO.agg
   obtain ⟨T1, k2, T2, k3, rfl⟩ := hag
   have hcan := refcanon_any (tab_own hO hdk (by rw [List.length_map]; omega) hL8) (by rw [List.length_map]; omega) hL8
   rw [← hletH.out] at hcan
   have hlang := hide (fun (t' : List (List Nat)) (ac' : List Bool) (h : CanT a.L t' ac' (langT (rowsG a.L (dPr t u) all all.length) (all.map (accPr (hldF o) ac bc)))) => h.congr (Λ' := fun z => op (a.lang z) (b.lang z)) fun z hz => by
    rw [pr_lang hD hz, hopH.out]
    show op (a.lang z) (b.lang z) = op (langT t ac z) (langT u bc z)
    rw [show langT t ac z = a.lang z from hCaH.out.can.lang z hz, show langT u bc z = b.lang z from hCbH.out.can.lang z hz])
   have hall : Hid ((all.map (accPr (hldF o) ac bc)).length ≤ 400) := by show _ ≤ _; rw [List.length_map]; exact hal
   have s7 := hb7.size
   have sB := (drewB wB).size
   have hR7 := hide ((hRB.out.below (drewB wB)).below hb7)
   generalize (rowsG a.L (dPr t u) all all.length).length = lr at *
   generalize (all.map (accPr (hldF o) ac bc)).length = lb at *
   go_wp2_with fail
   first | refine hQf _ _ ⟨Reg.same_below hb7 [5] rfl, ?_⟩ | refine ⟨Reg.same_below hb7 [5] rfl, ?_⟩
   try clear hQf
   clear hjn hb7 hD hO hdk
   refine Reg.rest_act' 6 [7, 8] [] rfl (by kernel_rfl) ?_
   intro Qf hQf
   simp only [gT, gS, gZ]
   go_wp2_with fail
   refine Calls.ret hcan ?_
   rintro d8 w8 ⟨hb8, t', ac', hC', hacl, hI⟩
   have hCC := hide (hlang.out t' ac' hC')
   have hacl2 := hide (Nat.le_trans hacl hall.out)
   obtain ⟨m, hm⟩ : ∃ m, m = plainW a.L t' ac' := ⟨_, rfl⟩
   rw [← hm] at hI
   have hmH := hide hm
   obtain ⟨G1, h1, G2, h2, G3, h3, rfl, -⟩ := hI w8 (Kept.refl _ _)
   have b08 := hide (b07.out.trans (hb8.mono b07.out.size))
   have hBr8 := hR7.out.below hb8
   have s8 := hb8.size
   obtain ⟨wF, hwF, hBF, hKF⟩ := set5_facts hBr8 (.int .i64 m.letters) (.int .i64 m.states) (.slice G1 m.start.length h1) (.slice G2 m.accept.length h2) (.slice G3 m.edges.length h3)
   have j1 := hBr8.frozen
   have j2 := hBr8.lt
   have j3 := hBr8.cell
   have j4 := hBF.cell
   have s08 := b08.out.size
   have hbF := hide (b08.out.trans (hKF.below s08 fun b hb e => by omega))
   have hfin := hide (fun w'' (hk : Kept wF w'' (fun k => k < w.heap.size)) => hI w'' ((hKF.mono fun b _ e => by omega).trans hk fun b _ e => by omega))
   unfold set5 at hwF
   clear hcan hm hI hb8 hBr8 hBF hKF hC' hacl
   go_wp2_with fail
   first | refine hQf _ _ ⟨Reg.nm, ?_⟩ | refine ⟨Reg.nm, ?_⟩
   try clear hQf
   refine Reg.rest_act' 7 [8] [] rfl (by kernel_rfl) ?_
   intro Qf hQf
   simp only [gT, gS, gZ]
   go_wp2_with fail
   first | refine hQf _ _ ⟨Reg.nm, ?_⟩ | refine ⟨Reg.nm, ?_⟩
   try clear hQf
   refine Reg.rest_walk' [8] [] rfl (by kernel_rfl) ?_
   intro Qf hQf
   go_wp2_with fail
   first | refine hQf _ _ ?_ | skip
   try clear hQf
   refine Reg.rest_end ?_
   go_wp2_with fail
   refine bodyPost_ret (v := .tuple #[.agg #[.int .i64 m.letters, .int .i64 m.states, .slice G1 m.start.length h1, .slice G2 m.accept.length h2, .slice G3 m.edges.length h3], .int .i64 0]) (by simp [results, Tryz.results34, go_sem, j4]) rfl ⟨hbF.out, .inr (.inr ⟨hboH.out, hnbg.out, t', ac', _, hCC.out, hacl2.out, rfl, by rw [← hmH.out]; exact hfin.out⟩)⟩
 ·obtain ⟨x0, x1, E1, n1, e1, E2, n2, e2, E3, n3, e3, rfl⟩ := hx
  obtain ⟨y0, y1, F1, m1, f1, F2, m2, f2, F3, m3, f3, rfl⟩ := hy
  obtain ⟨w5, w6, wA, wB, hw5, hw6, hwA, hwB, hx6, hyA, hxB, hyB, hbB, l5⟩ := two_box5 w4 (.int .i64 x0) (.int .i64 x1) (.slice E1 n1 e1) (.slice E2 n2 e2) (.slice E3 n3 e3) (.int .i64 y0) (.int .i64 y1) (.slice F1 m1 f1) (.slice F2 m2 f2) (.slice F3 m3 f3)
  have bsB := hbB.size
  have b0B := hide (b04.out.trans (hbB.mono b04.out.size))
  have s0B := b0B.out.size
  have hRB := hR4.out.below hbB
  have i1 := hx6.frozen
  have i2 := hx6.lt
  have i3 := hx6.cell
  have i4 := hyA.frozen
  have i5 := hyA.lt
  have i6 := hyA.cell
  obtain ⟨wF, hwF, hBF, hKF⟩ := set5_facts hRB (.int .i64 0) (.int .i64 0) sn0 sn0 sn0
  have j1 := hRB.frozen
  have j2 := hRB.lt
  have j3 := hRB.cell
  have j4 := hBF.cell
  have hbF := hide (b0B.out.trans (hKF.below (by omega) fun b hb e => by omega))
  have hzH := hide hz
  have hz2 : (e == 0) = false := by simpa using hz
  have hres : Hid ((a.both b = false ∧ e = 1) ∨ (a.both b = true ∧ BigJ a b ∧ e = 4)) := by
   rcases hpe with ⟨h1, h2⟩ | ⟨h1, h2, h3⟩ | ⟨-, -, -, h⟩
   ·exact hide (.inl ⟨h1, h2⟩)
   ·exact hide (.inr ⟨h1, h2.elim .inl fun h => .inr (.inl h), h3⟩)
   ·exact (hz h).elim
  unfold set5 at hwA hwB hwF
  clear hx6 hyA hxB hyB hbB hRB hBF hKF hok hpe
  go_wp2_with fail
  refine bodyPost_ret (v := .tuple #[.agg zero25, .int .i64 e]) (by simp [results, Tryz.results34, go_sem, j4]) rfl ⟨hbF.out, ?_⟩
  rcases hres.out with ⟨h1, rfl⟩ | ⟨h1, h2, rfl⟩
  ·exact .inl ⟨h1, rfl⟩
  ·exact .inr (.inl ⟨h1, h2, rfl⟩)
theorem refUnion_any {vA vB : Value} {a b : WA} {w : World} (hA : IsWA w w.heap.size vA a) (hB : IsWA w w.heap.size vB b) :
  Calls Tryz.prog 13 #[vA, vB] w (Ret fun r w' => CombRet (fun x y => x || y) w a b r w') := by
 have hAH := hide hA
 have hBH := hide hB
 obtain ⟨A1, c1, A2, c2, A3, c3, rfl, -⟩ := hA
 obtain ⟨B1, d1, B2, d2, B3, d3, rfl, -⟩ := hB
 obtain ⟨w1, hw1, hb1, hB1, -⟩ := box_blk w #[.int .i64 a.letters, .int .i64 a.states, .slice A1 a.start.length c1, .slice A2 a.accept.length c2, .slice A3 a.edges.length c3] 28
 obtain ⟨w2, hw2, hb2, hB2, -⟩ := box_blk w1 #[.int .i64 b.letters, .int .i64 b.states, .slice B1 b.start.length d1, .slice B2 b.accept.length d2, .slice B3 b.edges.length d3] 28
 obtain ⟨w3, hw3, hb3, hB3, -⟩ := box_blk w2 zero25 28
 have s1 := hb1.size
 have s2 := hb2.size
 have s3 := hb3.size
 have l3 := hB3.lt
 have b13 : Below w1.heap.size w1 w3 := hb2.trans (hb3.mono s2)
 have b03 := hide (hb1.trans (b13.mono s1))
 have f1 := (hB1.below b13).cell
 have f2 := (hB2.below hb3).cell
 have hBr3 := hide hB3
 have hcom := refJoined_any (o := 2) (op := fun x y => x || y) (by funext x y; rfl) (hAH.out.keep (w' := w3) (fun p hp => b03.out.cell hp) b03.out.size) (hBH.out.keep (w' := w3) (fun p hp => b03.out.cell hp) b03.out.size)
 clear hB1 hB2 hB3 hb1 hb2 hb3 b13
 go_enter Tryz.func13, Tryz.ntmps13
 go_wp2_with fail
 refine Calls.ret hcom ?_
 rintro r w4 ⟨hb4, hcase⟩
 have s4 := hb4.size
 have b04 := hide (b03.out.trans (hb4.mono b03.out.size))
 have bs := b04.out.size
 have hBr4 := hBr3.out.below hb4
 have j1 := hBr4.frozen
 have j2 := hBr4.lt
 have j3 := hBr4.cell
 clear hcom f1 f2
 rcases hcase with ⟨hbo, rfl⟩ | ⟨hbo, hbig, rfl⟩ | ⟨hbo, hnb, t, ac, d, hC, hac, rfl, hI⟩
 ·obtain ⟨wF, hwF, hBF, hKF⟩ := set5_facts hBr4 (.int .i64 0) (.int .i64 0) sn0 sn0 sn0
  have j4 := hBF.cell
  have hbF := hide (b04.out.trans (hKF.below (by omega) fun b hb e => by omega))
  have hboH := hide hbo
  unfold set5 at hwF
  clear hb4 hBr4 hBF hKF hbo
  go_wp2_with fail
  refine bodyPost_ret (v := .tuple #[.agg zero25, .int .i64 1]) (by simp [results, Tryz.results13, go_sem, j4]) rfl ⟨hbF.out, .inl ⟨hboH.out, rfl⟩⟩
 ·obtain ⟨wF, hwF, hBF, hKF⟩ := set5_facts hBr4 (.int .i64 0) (.int .i64 0) sn0 sn0 sn0
  have j4 := hBF.cell
  have hbF := hide (b04.out.trans (hKF.below (by omega) fun b hb e => by omega))
  have hboH := hide hbo
  have hbgH := hide hbig
  unfold set5 at hwF
  clear hb4 hBr4 hBF hKF hbo hbig
  go_wp2_with fail
  refine bodyPost_ret (v := .tuple #[.agg zero25, .int .i64 4]) (by simp [results, Tryz.results13, go_sem, j4]) rfl ⟨hbF.out, .inr (.inl ⟨hboH.out, hbgH.out, rfl⟩)⟩
 ·obtain ⟨m, hm⟩ : ∃ m, m = plainW a.L t ac := ⟨_, rfl⟩
  rw [← hm] at hI
  have hmH := hide hm
  obtain ⟨E1, h1, E2, h2, E3, h3, rfl, -⟩ := hI w4 (Kept.refl _ _)
  obtain ⟨wF, hwF, hBF, hKF⟩ := set5_facts hBr4 (.int .i64 m.letters) (.int .i64 m.states) (.slice E1 m.start.length h1) (.slice E2 m.accept.length h2) (.slice E3 m.edges.length h3)
  have j4 := hBF.cell
  have hbF := hide (b04.out.trans (hKF.below (by omega) fun b hb e => by omega))
  have hfin := hide (fun w'' (hk : Kept wF w'' (fun k => k < w.heap.size)) => hI w'' ((hKF.mono fun b _ e => by omega).trans hk fun b _ e => by omega))
  have hboH := hide hbo
  have hnbH := hide hnb
  have hCH := hide hC
  have hacH := hide hac
  unfold set5 at hwF
  clear hb4 hBr4 hBF hKF hbo hnb hC hac hI hm
  go_wp2_with fail
  refine bodyPost_ret (v := .tuple #[.agg #[.int .i64 m.letters, .int .i64 m.states, .slice E1 m.start.length h1, .slice E2 m.accept.length h2, .slice E3 m.edges.length h3], .int .i64 0]) (by simp [results, Tryz.results13, go_sem, j4]) rfl ⟨hbF.out, .inr (.inr ⟨hboH.out, hnbH.out, t, ac, _, hCH.out, hacH.out, rfl, by rw [← hmH.out]; exact hfin.out⟩)⟩
theorem refInter_any {vA vB : Value} {a b : WA} {w : World} (hA : IsWA w w.heap.size vA a) (hB : IsWA w w.heap.size vB b) :
  Calls Tryz.prog 15 #[vA, vB] w (Ret fun r w' => CombRet (fun x y => x && y) w a b r w') := by
 have hAH := hide hA
 have hBH := hide hB
 obtain ⟨A1, c1, A2, c2, A3, c3, rfl, -⟩ := hA
 obtain ⟨B1, d1, B2, d2, B3, d3, rfl, -⟩ := hB
 obtain ⟨w1, hw1, hb1, hB1, -⟩ := box_blk w #[.int .i64 a.letters, .int .i64 a.states, .slice A1 a.start.length c1, .slice A2 a.accept.length c2, .slice A3 a.edges.length c3] 28
 obtain ⟨w2, hw2, hb2, hB2, -⟩ := box_blk w1 #[.int .i64 b.letters, .int .i64 b.states, .slice B1 b.start.length d1, .slice B2 b.accept.length d2, .slice B3 b.edges.length d3] 28
 obtain ⟨w3, hw3, hb3, hB3, -⟩ := box_blk w2 zero25 28
 have s1 := hb1.size
 have s2 := hb2.size
 have s3 := hb3.size
 have l3 := hB3.lt
 have b13 : Below w1.heap.size w1 w3 := hb2.trans (hb3.mono s2)
 have b03 := hide (hb1.trans (b13.mono s1))
 have f1 := (hB1.below b13).cell
 have f2 := (hB2.below hb3).cell
 have hBr3 := hide hB3
 have hcom := refJoined_any (o := 1) (op := fun x y => x && y) (by funext x y; rfl) (hAH.out.keep (w' := w3) (fun p hp => b03.out.cell hp) b03.out.size) (hBH.out.keep (w' := w3) (fun p hp => b03.out.cell hp) b03.out.size)
 clear hB1 hB2 hB3 hb1 hb2 hb3 b13
 go_enter Tryz.func15, Tryz.ntmps15
 go_wp2_with fail
 refine Calls.ret hcom ?_
 rintro r w4 ⟨hb4, hcase⟩
 have s4 := hb4.size
 have b04 := hide (b03.out.trans (hb4.mono b03.out.size))
 have bs := b04.out.size
 have hBr4 := hBr3.out.below hb4
 have j1 := hBr4.frozen
 have j2 := hBr4.lt
 have j3 := hBr4.cell
 clear hcom f1 f2
 rcases hcase with ⟨hbo, rfl⟩ | ⟨hbo, hbig, rfl⟩ | ⟨hbo, hnb, t, ac, d, hC, hac, rfl, hI⟩
 ·obtain ⟨wF, hwF, hBF, hKF⟩ := set5_facts hBr4 (.int .i64 0) (.int .i64 0) sn0 sn0 sn0
  have j4 := hBF.cell
  have hbF := hide (b04.out.trans (hKF.below (by omega) fun b hb e => by omega))
  have hboH := hide hbo
  unfold set5 at hwF
  clear hb4 hBr4 hBF hKF hbo
  go_wp2_with fail
  refine bodyPost_ret (v := .tuple #[.agg zero25, .int .i64 1]) (by simp [results, Tryz.results15, go_sem, j4]) rfl ⟨hbF.out, .inl ⟨hboH.out, rfl⟩⟩
 ·obtain ⟨wF, hwF, hBF, hKF⟩ := set5_facts hBr4 (.int .i64 0) (.int .i64 0) sn0 sn0 sn0
  have j4 := hBF.cell
  have hbF := hide (b04.out.trans (hKF.below (by omega) fun b hb e => by omega))
  have hboH := hide hbo
  have hbgH := hide hbig
  unfold set5 at hwF
  clear hb4 hBr4 hBF hKF hbo hbig
  go_wp2_with fail
  refine bodyPost_ret (v := .tuple #[.agg zero25, .int .i64 4]) (by simp [results, Tryz.results15, go_sem, j4]) rfl ⟨hbF.out, .inr (.inl ⟨hboH.out, hbgH.out, rfl⟩)⟩
 ·obtain ⟨m, hm⟩ : ∃ m, m = plainW a.L t ac := ⟨_, rfl⟩
  rw [← hm] at hI
  have hmH := hide hm
  obtain ⟨E1, h1, E2, h2, E3, h3, rfl, -⟩ := hI w4 (Kept.refl _ _)
  obtain ⟨wF, hwF, hBF, hKF⟩ := set5_facts hBr4 (.int .i64 m.letters) (.int .i64 m.states) (.slice E1 m.start.length h1) (.slice E2 m.accept.length h2) (.slice E3 m.edges.length h3)
  have j4 := hBF.cell
  have hbF := hide (b04.out.trans (hKF.below (by omega) fun b hb e => by omega))
  have hfin := hide (fun w'' (hk : Kept wF w'' (fun k => k < w.heap.size)) => hI w'' ((hKF.mono fun b _ e => by omega).trans hk fun b _ e => by omega))
  have hboH := hide hbo
  have hnbH := hide hnb
  have hCH := hide hC
  have hacH := hide hac
  unfold set5 at hwF
  clear hb4 hBr4 hBF hKF hbo hnb hC hac hI hm
  go_wp2_with fail
  refine bodyPost_ret (v := .tuple #[.agg #[.int .i64 m.letters, .int .i64 m.states, .slice E1 m.start.length h1, .slice E2 m.accept.length h2, .slice E3 m.edges.length h3], .int .i64 0]) (by simp [results, Tryz.results15, go_sem, j4]) rfl ⟨hbF.out, .inr (.inr ⟨hboH.out, hnbH.out, t, ac, _, hCH.out, hacH.out, rfl, by rw [← hmH.out]; exact hfin.out⟩)⟩
end Go.Proofs.YtakpmdmjbgipiaaGreatDoor
