/-
  Part XK of a proof.
-/
import Derived.Test.YtbjdgepfhhafjaaDoorXA
import Derived.Test.YtbjdgepfhhafjaaDoorXG
set_option maxHeartbeats 16000000
set_option maxRecDepth 100000
set_option linter.unusedVariables false
set_option linter.unusedSimpArgs false
namespace Go.Proofs.YtbjdgepfhhafjaaDoor
open Go.RowKit
attribute [-go_sem] loadCellsFrom storeCells
theorem RuleIs.cells {w : World} {B : Nat} {cs : List Value} {r : RuleD} (h : RuleIs w B cs r) : ∃ A1 c1 A2 c2 A3 c3 A4 c4 A5 c5 A6 c6 A7 c7 A8 c8,
  (cs.toArray.size = 18 ∧ cs.toArray[0]? = some (.string r.name) ∧ cs.toArray[1]? = some (.int .i64 r.kind) ∧ cs.toArray[2]? = some (.int .i64 r.fr) ∧ cs.toArray[3]? = some (.int .i64 r.to) ∧ cs.toArray[4]? = some (.int .i64 r.pf) ∧ cs.toArray[5]? = some (.int .i64 r.pt) ∧ cs.toArray[6]? = some (.slice A1 r.resp.length c1) ∧
   cs.toArray[7]? = some (.slice A2 r.guards.length c2) ∧ cs.toArray[8]? = some (.slice A3 r.ex.length c3) ∧ cs.toArray[9]? = some (.slice A4 r.fa.length c4) ∧ cs.toArray[10]? = some (.int .i64 r.rd) ∧ cs.toArray[11]? = some (.int .i64 r.wr) ∧ cs.toArray[12]? = some (.slice A5 r.send.length c5) ∧
   cs.toArray[13]? = some (.int .i64 r.at_) ∧ cs.toArray[14]? = some (.slice A6 r.left.length c6) ∧ cs.toArray[15]? = some (.slice A7 r.right.length c7) ∧ cs.toArray[16]? = some (.slice A8 r.parent.length c8) ∧ cs.toArray[17]? = some (.int .i64 r.dir)) ∧
  (Sl w B 1 encI A1 r.resp ∧ Sl w B 6 encThr A2 r.guards ∧ Sl w B 1 encI A3 r.ex ∧ Sl w B 1 encI A4 r.fa ∧ Sl w B 1 encI A5 r.send ∧ Sl w B 1 encI A6 r.left ∧ Sl w B 1 encI A7 r.right ∧ Sl w B 1 encI A8 r.parent) := by
 obtain ⟨A1, c1, A2, c2, A3, c3, A4, c4, A5, c5, A6, c6, A7, c7, A8, c8, rfl, h1⟩ := h
 exact ⟨A1, c1, A2, c2, A3, c3, A4, c4, A5, c5, A6, c6, A7, c7, A8, c8, ⟨rfl, rfl, rfl, rfl, rfl, rfl, rfl, rfl, rfl, rfl, rfl, rfl, rfl, rfl, rfl, rfl, rfl, rfl, rfl⟩, h1⟩
def unV (k1 k2 k3 k4 k5 t4 : Bool) (ng ne nf nd nl nt np nr : Nat) (rd wr pf pt at_ dir : Int) : Bool :=
 (!k1 && (decide (0 < ng) || decide (0 < ne) || decide (0 < nf) || decide (0 < nd))) ||
 ((!k1 && !k2 && !k3) && (!decide (rd = -1) || !decide (wr = -1))) ||
 ((!k2 && !k5) && (!decide (pf = 0) || !decide (pt = 0))) ||
 (!k3 && decide (0 < nr)) || (!k5 && !decide (dir = 0)) ||
 (!k4 && (!decide (at_ = 0) || decide (0 < nl) || decide (0 < nt))) ||
 (decide (0 < np) && !(k4 && t4))
theorem ne_len {A : Type} (l : List A) : (!l.isEmpty) = decide (0 < l.length) := by cases l <;> simp
theorem un_eq (topo : Int) (r : RuleD) : unusedR topo r = unV (decide (r.kind = 1)) (decide (r.kind = 2)) (decide (r.kind = 3)) (decide (r.kind = 4)) (decide (r.kind = 5)) (decide (topo = 4)) r.guards.length r.ex.length r.fa.length r.send.length r.left.length r.right.length r.parent.length r.resp.length r.rd r.wr r.pf r.pt r.at_ r.dir := by
 unfold unusedR unV
 simp only [ne_len]
theorem prot_cells {w : World} {B : Nat} {cs : List Value} {p : ProtD} (h : ProtIs w B cs p) : ∃ A1 c1 A2 c2 A3 c3 A4 c4 A5 c5 A6 c6 A7 c7,
  cs.toArray.size = 10 ∧ cs.toArray[0]? = some (.string p.name) ∧ cs.toArray[1]? = some (.int .i64 p.topo) ∧ cs.toArray[2]? = some (.slice A1 p.states.length c1) ∧ cs.toArray[3]? = some (.slice A2 p.messages.length c2) ∧
  cs.toArray[4]? = some (.slice A3 p.values.length c3) ∧ cs.toArray[5]? = some (.int .i64 p.fault) ∧ cs.toArray[6]? = some (.slice A4 p.res.length c4) ∧ cs.toArray[7]? = some (.slice A5 p.initial.length c5) ∧ cs.toArray[8]? = some (.slice A6 p.leader.length c6) ∧ cs.toArray[9]? = some (.slice A7 p.rules.length c7) := by
 obtain ⟨A1, c1, A2, c2, A3, c3, A4, c4, A5, c5, A6, c6, A7, c7, rfl, _⟩ := h
 exact ⟨A1, c1, A2, c2, A3, c3, A4, c4, A5, c5, A6, c6, A7, c7, rfl, rfl, rfl, rfl, rfl, rfl, rfl, rfl, rfl, rfl, rfl⟩
theorem unused_1 {w : World} {cs ds : List Value} {p : ProtD} {r : RuleD} (h : ProtIs w w.heap.size cs p) (h' : RuleIs w w.heap.size ds r) (hs : r.Small) (hk : Hid (r.kind = 1)) :
  Calls Tryd.prog 71 #[.agg cs.toArray, .agg ds.toArray] w (Ret fun v w' => v = .bool (unusedR p.topo r) ∧ Below w.heap.size w w') := by
 obtain ⟨A1, c1, A2, c2, A3, c3, A4, c4, A5, c5, A6, c6, A7, c7, hpsz, hp0, hp1, -⟩ := prot_cells h
 obtain ⟨E1, f1, E2, f2, E3, f3, E4, f4, E5, f5, E6, f6, E7, f7, E8, f8, ⟨hrsz, hr0, hr1, hr2, hr3, hr4, hr5, hr6, hr7, hr8, hr9, hr10, hr11, hr12, hr13, hr14, hr15, hr16, hr17⟩, -⟩ := h'.cells
 obtain ⟨hs1, hs2, hs3, hs4, hs5, hs6, hs7, hs8⟩ := hs
 have hU := un_eq p.topo r
 obtain ⟨w1, hw1, hb1, hB1, hk1⟩ := box_blk w cs.toArray 27
 obtain ⟨w2, hw2, hb2, hB2, hk2⟩ := box_blk w1 ds.toArray 51
 have hb02 := hide (hb1.trans (hb2.mono hb1.size))
 have hb02d := hide (hb02.out.trans ((drewB w2).mono hb02.out.size))
 have hc21 := (hB1.below hb2).cell
 have hc22 := hB2.cell
 generalize cs.toArray = pc at *
 generalize ds.toArray = rc at *
 obtain ⟨ng, hng⟩ : ∃ n, n = r.guards.length := ⟨_, rfl⟩
 rw [← hng] at hU
 obtain ⟨ne, hne⟩ : ∃ n, n = r.ex.length := ⟨_, rfl⟩
 rw [← hne] at hU
 obtain ⟨nf, hnf⟩ : ∃ n, n = r.fa.length := ⟨_, rfl⟩
 rw [← hnf] at hU
 obtain ⟨nd, hnd⟩ : ∃ n, n = r.send.length := ⟨_, rfl⟩
 rw [← hnd] at hU
 obtain ⟨nl, hnl⟩ : ∃ n, n = r.left.length := ⟨_, rfl⟩
 rw [← hnl] at hU
 obtain ⟨nt, hnt⟩ : ∃ n, n = r.right.length := ⟨_, rfl⟩
 rw [← hnt] at hU
 obtain ⟨np, hnp⟩ : ∃ n, n = r.parent.length := ⟨_, rfl⟩
 rw [← hnp] at hU
 obtain ⟨nr, hnr⟩ : ∃ n, n = r.resp.length := ⟨_, rfl⟩
 rw [← hnr] at hU
 rw [← hng] at hr7 hs2
 rw [← hne] at hr8 hs3
 rw [← hnf] at hr9 hs4
 rw [← hnd] at hr12 hs5
 rw [← hnl] at hr14 hs6
 rw [← hnt] at hr15 hs7
 rw [← hnp] at hr16 hs8
 rw [← hnr] at hr6 hs1
 obtain ⟨rd, hrd⟩ : ∃ n, n = r.rd := ⟨_, rfl⟩
 rw [← hrd] at hU hr10
 obtain ⟨wr, hwr⟩ : ∃ n, n = r.wr := ⟨_, rfl⟩
 rw [← hwr] at hU hr11
 obtain ⟨pf, hpf⟩ : ∃ n, n = r.pf := ⟨_, rfl⟩
 rw [← hpf] at hU hr4
 obtain ⟨pt, hpt⟩ : ∃ n, n = r.pt := ⟨_, rfl⟩
 rw [← hpt] at hU hr5
 obtain ⟨ta, hta⟩ : ∃ n, n = r.at_ := ⟨_, rfl⟩
 rw [← hta] at hU hr13
 obtain ⟨di, hdi⟩ : ∃ n, n = r.dir := ⟨_, rfl⟩
 rw [← hdi] at hU hr17
 obtain ⟨kt, hkt⟩ : ∃ n, n = p.topo := ⟨_, rfl⟩
 rw [← hkt] at hU hp1 ⊢
 obtain ⟨kr, hkr⟩ : ∃ n, n = r.kind := ⟨_, rfl⟩
 rw [← hkr] at hU hr1 hk
 have q1 : (kr == 1) = true := by rw [hk.out]; rfl
 have q2 : (kr == 2) = false := by rw [hk.out]; rfl
 have q3 : (kr == 3) = false := by rw [hk.out]; rfl
 have q4 : (kr == 4) = false := by rw [hk.out]; rfl
 have q5 : (kr == 5) = false := by rw [hk.out]; rfl
 have y1 : decide (kr = 1) = true := by rw [hk.out]; rfl
 have y2 : decide (kr = 2) = false := by rw [hk.out]; rfl
 have y3 : decide (kr = 3) = false := by rw [hk.out]; rfl
 have y4 : decide (kr = 4) = false := by rw [hk.out]; rfl
 have y5 : decide (kr = 5) = false := by rw [hk.out]; rfl
 rw [y1, y2, y3, y4, y5] at hU
 have hUH := hide hU
 clear hng hne hnf hnd hnl hnt hnp hnr hrd hwr hpf hpt hta hdi hkt hkr hU y1 y2 y3 y4 y5 hb1 hb2 hB1 hB2 hk1 hk2 hpsz hrsz hp0 hr0 hr2 hr3
 go_enter Tryd.func71, Tryd.ntmps71
 go_wp2_with fail
 refine Reg.cI [0, 1, 3, 0, 8, 24, 0, 64, 192, 0, 512, 1536, 0, 4096, 12288, 7, 32831, 98815, 233471, 524287] [0, 1, 2, 3, 4, 5, 6, 7, 8, 9, 10, 11, 12, 13, 14, 15, 16, 17, 18, 19] ?_
 refine Reg.wI [0, 1, 2, 3, 4, 5, 6, 7, 8, 9, 10, 11, 12, 13, 14, 15, 16, 17, 18, 19] [] rfl fun Qf hQf => ?_
 go_wp2_with fail
 first | refine hQf _ _ ⟨rfl, ?_⟩ | refine ⟨rfl, ?_⟩
 try clear hQf
 first | refine Reg.restI_end ?_ | skip
 go_wp2_with fail
 all_goals
  go_ret
  refine ⟨?_, hb02d.out⟩
  rw [hUH.out]
  refine congrArg Value.bool ?_
  clear q1 q2 q3 q4 q5 hUH hc21 hc22 hw1 hw2 h h' hp1 hr1 hr4 hr5 hr6 hr7 hr8 hr9 hr10 hr11 hr12 hr13 hr14 hr15 hr16 hr17
  unfold unV
  first
   | (simp_all; done)
   | (simp_all; omega)
   | (by_cases h4 : kt = 4 <;> simp_all; done)
   | (by_cases h4 : kt = 4 <;> simp_all <;> omega)
theorem unused_2 {w : World} {cs ds : List Value} {p : ProtD} {r : RuleD} (h : ProtIs w w.heap.size cs p) (h' : RuleIs w w.heap.size ds r) (hs : r.Small) (hk : Hid (r.kind = 2)) :
  Calls Tryd.prog 71 #[.agg cs.toArray, .agg ds.toArray] w (Ret fun v w' => v = .bool (unusedR p.topo r) ∧ Below w.heap.size w w') := by
 obtain ⟨A1, c1, A2, c2, A3, c3, A4, c4, A5, c5, A6, c6, A7, c7, hpsz, hp0, hp1, -⟩ := prot_cells h
 obtain ⟨E1, f1, E2, f2, E3, f3, E4, f4, E5, f5, E6, f6, E7, f7, E8, f8, ⟨hrsz, hr0, hr1, hr2, hr3, hr4, hr5, hr6, hr7, hr8, hr9, hr10, hr11, hr12, hr13, hr14, hr15, hr16, hr17⟩, -⟩ := h'.cells
 obtain ⟨hs1, hs2, hs3, hs4, hs5, hs6, hs7, hs8⟩ := hs
 have hU := un_eq p.topo r
 obtain ⟨w1, hw1, hb1, hB1, hk1⟩ := box_blk w cs.toArray 27
 obtain ⟨w2, hw2, hb2, hB2, hk2⟩ := box_blk w1 ds.toArray 51
 have hb02 := hide (hb1.trans (hb2.mono hb1.size))
 have hb02d := hide (hb02.out.trans ((drewB w2).mono hb02.out.size))
 have hc21 := (hB1.below hb2).cell
 have hc22 := hB2.cell
 generalize cs.toArray = pc at *
 generalize ds.toArray = rc at *
 obtain ⟨ng, hng⟩ : ∃ n, n = r.guards.length := ⟨_, rfl⟩
 rw [← hng] at hU
 obtain ⟨ne, hne⟩ : ∃ n, n = r.ex.length := ⟨_, rfl⟩
 rw [← hne] at hU
 obtain ⟨nf, hnf⟩ : ∃ n, n = r.fa.length := ⟨_, rfl⟩
 rw [← hnf] at hU
 obtain ⟨nd, hnd⟩ : ∃ n, n = r.send.length := ⟨_, rfl⟩
 rw [← hnd] at hU
 obtain ⟨nl, hnl⟩ : ∃ n, n = r.left.length := ⟨_, rfl⟩
 rw [← hnl] at hU
 obtain ⟨nt, hnt⟩ : ∃ n, n = r.right.length := ⟨_, rfl⟩
 rw [← hnt] at hU
 obtain ⟨np, hnp⟩ : ∃ n, n = r.parent.length := ⟨_, rfl⟩
 rw [← hnp] at hU
 obtain ⟨nr, hnr⟩ : ∃ n, n = r.resp.length := ⟨_, rfl⟩
 rw [← hnr] at hU
 rw [← hng] at hr7 hs2
 rw [← hne] at hr8 hs3
 rw [← hnf] at hr9 hs4
 rw [← hnd] at hr12 hs5
 rw [← hnl] at hr14 hs6
 rw [← hnt] at hr15 hs7
 rw [← hnp] at hr16 hs8
 rw [← hnr] at hr6 hs1
 obtain ⟨rd, hrd⟩ : ∃ n, n = r.rd := ⟨_, rfl⟩
 rw [← hrd] at hU hr10
 obtain ⟨wr, hwr⟩ : ∃ n, n = r.wr := ⟨_, rfl⟩
 rw [← hwr] at hU hr11
 obtain ⟨pf, hpf⟩ : ∃ n, n = r.pf := ⟨_, rfl⟩
 rw [← hpf] at hU hr4
 obtain ⟨pt, hpt⟩ : ∃ n, n = r.pt := ⟨_, rfl⟩
 rw [← hpt] at hU hr5
 obtain ⟨ta, hta⟩ : ∃ n, n = r.at_ := ⟨_, rfl⟩
 rw [← hta] at hU hr13
 obtain ⟨di, hdi⟩ : ∃ n, n = r.dir := ⟨_, rfl⟩
 rw [← hdi] at hU hr17
 obtain ⟨kt, hkt⟩ : ∃ n, n = p.topo := ⟨_, rfl⟩
 rw [← hkt] at hU hp1 ⊢
 obtain ⟨kr, hkr⟩ : ∃ n, n = r.kind := ⟨_, rfl⟩
 rw [← hkr] at hU hr1 hk
 have q1 : (kr == 1) = false := by rw [hk.out]; rfl
 have q2 : (kr == 2) = true := by rw [hk.out]; rfl
 have q3 : (kr == 3) = false := by rw [hk.out]; rfl
 have q4 : (kr == 4) = false := by rw [hk.out]; rfl
 have q5 : (kr == 5) = false := by rw [hk.out]; rfl
 have y1 : decide (kr = 1) = false := by rw [hk.out]; rfl
 have y2 : decide (kr = 2) = true := by rw [hk.out]; rfl
 have y3 : decide (kr = 3) = false := by rw [hk.out]; rfl
 have y4 : decide (kr = 4) = false := by rw [hk.out]; rfl
 have y5 : decide (kr = 5) = false := by rw [hk.out]; rfl
 rw [y1, y2, y3, y4, y5] at hU
 have hUH := hide hU
 clear hng hne hnf hnd hnl hnt hnp hnr hrd hwr hpf hpt hta hdi hkt hkr hU y1 y2 y3 y4 y5 hb1 hb2 hB1 hB2 hk1 hk2 hpsz hrsz hp0 hr0 hr2 hr3
 go_enter Tryd.func71, Tryd.ntmps71
 go_wp2_with fail
 refine Reg.cI [0, 1, 3, 0, 8, 24, 0, 64, 192, 0, 512, 1536, 0, 4096, 12288, 7, 32831, 98815, 233471, 524287] [0, 1, 2, 3, 4, 5, 6, 7, 8, 9, 10, 11, 12, 13, 14, 15, 16, 17, 18, 19] ?_
 refine Reg.wI [0, 1, 2, 3, 4, 5, 6, 7, 8, 9, 10, 11, 12, 13, 14, 15, 16, 17, 18, 19] [] rfl fun Qf hQf => ?_
 go_wp2_with fail
 first | refine hQf _ _ ⟨rfl, ?_⟩ | refine ⟨rfl, ?_⟩
 try clear hQf
 first | refine Reg.restI_end ?_ | skip
 go_wp2_with fail
 all_goals
  go_ret
  refine ⟨?_, hb02d.out⟩
  rw [hUH.out]
  refine congrArg Value.bool ?_
  clear q1 q2 q3 q4 q5 hUH hc21 hc22 hw1 hw2 h h' hp1 hr1 hr4 hr5 hr6 hr7 hr8 hr9 hr10 hr11 hr12 hr13 hr14 hr15 hr16 hr17
  unfold unV
  first
   | (simp_all; done)
   | (simp_all; omega)
   | (by_cases h4 : kt = 4 <;> simp_all; done)
   | (by_cases h4 : kt = 4 <;> simp_all <;> omega)
theorem unused_3 {w : World} {cs ds : List Value} {p : ProtD} {r : RuleD} (h : ProtIs w w.heap.size cs p) (h' : RuleIs w w.heap.size ds r) (hs : r.Small) (hk : Hid (r.kind = 3)) :
  Calls Tryd.prog 71 #[.agg cs.toArray, .agg ds.toArray] w (Ret fun v w' => v = .bool (unusedR p.topo r) ∧ Below w.heap.size w w') := by
 obtain ⟨A1, c1, A2, c2, A3, c3, A4, c4, A5, c5, A6, c6, A7, c7, hpsz, hp0, hp1, -⟩ := prot_cells h
 obtain ⟨E1, f1, E2, f2, E3, f3, E4, f4, E5, f5, E6, f6, E7, f7, E8, f8, ⟨hrsz, hr0, hr1, hr2, hr3, hr4, hr5, hr6, hr7, hr8, hr9, hr10, hr11, hr12, hr13, hr14, hr15, hr16, hr17⟩, -⟩ := h'.cells
 obtain ⟨hs1, hs2, hs3, hs4, hs5, hs6, hs7, hs8⟩ := hs
 have hU := un_eq p.topo r
 obtain ⟨w1, hw1, hb1, hB1, hk1⟩ := box_blk w cs.toArray 27
 obtain ⟨w2, hw2, hb2, hB2, hk2⟩ := box_blk w1 ds.toArray 51
 have hb02 := hide (hb1.trans (hb2.mono hb1.size))
 have hb02d := hide (hb02.out.trans ((drewB w2).mono hb02.out.size))
 have hc21 := (hB1.below hb2).cell
 have hc22 := hB2.cell
 generalize cs.toArray = pc at *
 generalize ds.toArray = rc at *
 obtain ⟨ng, hng⟩ : ∃ n, n = r.guards.length := ⟨_, rfl⟩
 rw [← hng] at hU
 obtain ⟨ne, hne⟩ : ∃ n, n = r.ex.length := ⟨_, rfl⟩
 rw [← hne] at hU
 obtain ⟨nf, hnf⟩ : ∃ n, n = r.fa.length := ⟨_, rfl⟩
 rw [← hnf] at hU
 obtain ⟨nd, hnd⟩ : ∃ n, n = r.send.length := ⟨_, rfl⟩
 rw [← hnd] at hU
 obtain ⟨nl, hnl⟩ : ∃ n, n = r.left.length := ⟨_, rfl⟩
 rw [← hnl] at hU
 obtain ⟨nt, hnt⟩ : ∃ n, n = r.right.length := ⟨_, rfl⟩
 rw [← hnt] at hU
 obtain ⟨np, hnp⟩ : ∃ n, n = r.parent.length := ⟨_, rfl⟩
 rw [← hnp] at hU
 obtain ⟨nr, hnr⟩ : ∃ n, n = r.resp.length := ⟨_, rfl⟩
 rw [← hnr] at hU
 rw [← hng] at hr7 hs2
 rw [← hne] at hr8 hs3
 rw [← hnf] at hr9 hs4
 rw [← hnd] at hr12 hs5
 rw [← hnl] at hr14 hs6
 rw [← hnt] at hr15 hs7
 rw [← hnp] at hr16 hs8
 rw [← hnr] at hr6 hs1
 obtain ⟨rd, hrd⟩ : ∃ n, n = r.rd := ⟨_, rfl⟩
 rw [← hrd] at hU hr10
 obtain ⟨wr, hwr⟩ : ∃ n, n = r.wr := ⟨_, rfl⟩
 rw [← hwr] at hU hr11
 obtain ⟨pf, hpf⟩ : ∃ n, n = r.pf := ⟨_, rfl⟩
 rw [← hpf] at hU hr4
 obtain ⟨pt, hpt⟩ : ∃ n, n = r.pt := ⟨_, rfl⟩
 rw [← hpt] at hU hr5
 obtain ⟨ta, hta⟩ : ∃ n, n = r.at_ := ⟨_, rfl⟩
 rw [← hta] at hU hr13
 obtain ⟨di, hdi⟩ : ∃ n, n = r.dir := ⟨_, rfl⟩
 rw [← hdi] at hU hr17
 obtain ⟨kt, hkt⟩ : ∃ n, n = p.topo := ⟨_, rfl⟩
 rw [← hkt] at hU hp1 ⊢
 obtain ⟨kr, hkr⟩ : ∃ n, n = r.kind := ⟨_, rfl⟩
 rw [← hkr] at hU hr1 hk
 have q1 : (kr == 1) = false := by rw [hk.out]; rfl
 have q2 : (kr == 2) = false := by rw [hk.out]; rfl
 have q3 : (kr == 3) = true := by rw [hk.out]; rfl
 have q4 : (kr == 4) = false := by rw [hk.out]; rfl
 have q5 : (kr == 5) = false := by rw [hk.out]; rfl
 have y1 : decide (kr = 1) = false := by rw [hk.out]; rfl
 have y2 : decide (kr = 2) = false := by rw [hk.out]; rfl
 have y3 : decide (kr = 3) = true := by rw [hk.out]; rfl
 have y4 : decide (kr = 4) = false := by rw [hk.out]; rfl
 have y5 : decide (kr = 5) = false := by rw [hk.out]; rfl
 rw [y1, y2, y3, y4, y5] at hU
 have hUH := hide hU
 clear hng hne hnf hnd hnl hnt hnp hnr hrd hwr hpf hpt hta hdi hkt hkr hU y1 y2 y3 y4 y5 hb1 hb2 hB1 hB2 hk1 hk2 hpsz hrsz hp0 hr0 hr2 hr3
 go_enter Tryd.func71, Tryd.ntmps71
 go_wp2_with fail
 refine Reg.cI [0, 1, 3, 0, 8, 24, 0, 64, 192, 0, 512, 1536, 0, 4096, 12288, 7, 32831, 98815, 233471, 524287] [0, 1, 2, 3, 4, 5, 6, 7, 8, 9, 10, 11, 12, 13, 14, 15, 16, 17, 18, 19] ?_
 refine Reg.wI [0, 1, 2, 3, 4, 5, 6, 7, 8, 9, 10, 11, 12, 13, 14, 15, 16, 17, 18, 19] [] rfl fun Qf hQf => ?_
 go_wp2_with fail
 first | refine hQf _ _ ⟨rfl, ?_⟩ | refine ⟨rfl, ?_⟩
 try clear hQf
 first | refine Reg.restI_end ?_ | skip
 go_wp2_with fail
 all_goals
  go_ret
  refine ⟨?_, hb02d.out⟩
  rw [hUH.out]
  refine congrArg Value.bool ?_
  clear q1 q2 q3 q4 q5 hUH hc21 hc22 hw1 hw2 h h' hp1 hr1 hr4 hr5 hr6 hr7 hr8 hr9 hr10 hr11 hr12 hr13 hr14 hr15 hr16 hr17
  unfold unV
  first
   | (simp_all; done)
   | (simp_all; omega)
   | (by_cases h4 : kt = 4 <;> simp_all; done)
   | (by_cases h4 : kt = 4 <;> simp_all <;> omega)
theorem unused_4 {w : World} {cs ds : List Value} {p : ProtD} {r : RuleD} (h : ProtIs w w.heap.size cs p) (h' : RuleIs w w.heap.size ds r) (hs : r.Small) (hk : Hid (r.kind = 4)) :
  Calls Tryd.prog 71 #[.agg cs.toArray, .agg ds.toArray] w (Ret fun v w' => v = .bool (unusedR p.topo r) ∧ Below w.heap.size w w') := by
 obtain ⟨A1, c1, A2, c2, A3, c3, A4, c4, A5, c5, A6, c6, A7, c7, hpsz, hp0, hp1, -⟩ := prot_cells h
 obtain ⟨E1, f1, E2, f2, E3, f3, E4, f4, E5, f5, E6, f6, E7, f7, E8, f8, ⟨hrsz, hr0, hr1, hr2, hr3, hr4, hr5, hr6, hr7, hr8, hr9, hr10, hr11, hr12, hr13, hr14, hr15, hr16, hr17⟩, -⟩ := h'.cells
 obtain ⟨hs1, hs2, hs3, hs4, hs5, hs6, hs7, hs8⟩ := hs
 have hU := un_eq p.topo r
 obtain ⟨w1, hw1, hb1, hB1, hk1⟩ := box_blk w cs.toArray 27
 obtain ⟨w2, hw2, hb2, hB2, hk2⟩ := box_blk w1 ds.toArray 51
 have hb02 := hide (hb1.trans (hb2.mono hb1.size))
 have hb02d := hide (hb02.out.trans ((drewB w2).mono hb02.out.size))
 have hc21 := (hB1.below hb2).cell
 have hc22 := hB2.cell
 generalize cs.toArray = pc at *
 generalize ds.toArray = rc at *
 obtain ⟨ng, hng⟩ : ∃ n, n = r.guards.length := ⟨_, rfl⟩
 rw [← hng] at hU
 obtain ⟨ne, hne⟩ : ∃ n, n = r.ex.length := ⟨_, rfl⟩
 rw [← hne] at hU
 obtain ⟨nf, hnf⟩ : ∃ n, n = r.fa.length := ⟨_, rfl⟩
 rw [← hnf] at hU
 obtain ⟨nd, hnd⟩ : ∃ n, n = r.send.length := ⟨_, rfl⟩
 rw [← hnd] at hU
 obtain ⟨nl, hnl⟩ : ∃ n, n = r.left.length := ⟨_, rfl⟩
 rw [← hnl] at hU
 obtain ⟨nt, hnt⟩ : ∃ n, n = r.right.length := ⟨_, rfl⟩
 rw [← hnt] at hU
 obtain ⟨np, hnp⟩ : ∃ n, n = r.parent.length := ⟨_, rfl⟩
 rw [← hnp] at hU
 obtain ⟨nr, hnr⟩ : ∃ n, n = r.resp.length := ⟨_, rfl⟩
 rw [← hnr] at hU
 rw [← hng] at hr7 hs2
 rw [← hne] at hr8 hs3
 rw [← hnf] at hr9 hs4
 rw [← hnd] at hr12 hs5
 rw [← hnl] at hr14 hs6
 rw [← hnt] at hr15 hs7
 rw [← hnp] at hr16 hs8
 rw [← hnr] at hr6 hs1
 obtain ⟨rd, hrd⟩ : ∃ n, n = r.rd := ⟨_, rfl⟩
 rw [← hrd] at hU hr10
 obtain ⟨wr, hwr⟩ : ∃ n, n = r.wr := ⟨_, rfl⟩
 rw [← hwr] at hU hr11
 obtain ⟨pf, hpf⟩ : ∃ n, n = r.pf := ⟨_, rfl⟩
 rw [← hpf] at hU hr4
 obtain ⟨pt, hpt⟩ : ∃ n, n = r.pt := ⟨_, rfl⟩
 rw [← hpt] at hU hr5
 obtain ⟨ta, hta⟩ : ∃ n, n = r.at_ := ⟨_, rfl⟩
 rw [← hta] at hU hr13
 obtain ⟨di, hdi⟩ : ∃ n, n = r.dir := ⟨_, rfl⟩
 rw [← hdi] at hU hr17
 obtain ⟨kt, hkt⟩ : ∃ n, n = p.topo := ⟨_, rfl⟩
 rw [← hkt] at hU hp1 ⊢
 obtain ⟨kr, hkr⟩ : ∃ n, n = r.kind := ⟨_, rfl⟩
 rw [← hkr] at hU hr1 hk
 have q1 : (kr == 1) = false := by rw [hk.out]; rfl
 have q2 : (kr == 2) = false := by rw [hk.out]; rfl
 have q3 : (kr == 3) = false := by rw [hk.out]; rfl
 have q4 : (kr == 4) = true := by rw [hk.out]; rfl
 have q5 : (kr == 5) = false := by rw [hk.out]; rfl
 have y1 : decide (kr = 1) = false := by rw [hk.out]; rfl
 have y2 : decide (kr = 2) = false := by rw [hk.out]; rfl
 have y3 : decide (kr = 3) = false := by rw [hk.out]; rfl
 have y4 : decide (kr = 4) = true := by rw [hk.out]; rfl
 have y5 : decide (kr = 5) = false := by rw [hk.out]; rfl
 rw [y1, y2, y3, y4, y5] at hU
 have hUH := hide hU
 clear hng hne hnf hnd hnl hnt hnp hnr hrd hwr hpf hpt hta hdi hkt hkr hU y1 y2 y3 y4 y5 hb1 hb2 hB1 hB2 hk1 hk2 hpsz hrsz hp0 hr0 hr2 hr3
 go_enter Tryd.func71, Tryd.ntmps71
 go_wp2_with fail
 refine Reg.cI [0, 1, 3, 0, 8, 24, 0, 64, 192, 0, 512, 1536, 0, 4096, 12288, 7, 32831, 98815, 233471, 524287] [0, 1, 2, 3, 4, 5, 6, 7, 8, 9, 10, 11, 12, 13, 14, 15, 16, 17, 18, 19] ?_
 refine Reg.wI [0, 1, 2, 3, 4, 5, 6, 7, 8, 9, 10, 11, 12, 13, 14, 15, 16, 17, 18, 19] [] rfl fun Qf hQf => ?_
 go_wp2_with fail
 first | refine hQf _ _ ⟨rfl, ?_⟩ | refine ⟨rfl, ?_⟩
 try clear hQf
 first | refine Reg.restI_end ?_ | skip
 go_wp2_with fail
 all_goals
  go_ret
  refine ⟨?_, hb02d.out⟩
  rw [hUH.out]
  refine congrArg Value.bool ?_
  clear q1 q2 q3 q4 q5 hUH hc21 hc22 hw1 hw2 h h' hp1 hr1 hr4 hr5 hr6 hr7 hr8 hr9 hr10 hr11 hr12 hr13 hr14 hr15 hr16 hr17
  unfold unV
  first
   | (simp_all; done)
   | (simp_all; omega)
   | (by_cases h4 : kt = 4 <;> simp_all; done)
   | (by_cases h4 : kt = 4 <;> simp_all <;> omega)
theorem unused_5 {w : World} {cs ds : List Value} {p : ProtD} {r : RuleD} (h : ProtIs w w.heap.size cs p) (h' : RuleIs w w.heap.size ds r) (hs : r.Small) (hk : Hid (r.kind = 5)) :
  Calls Tryd.prog 71 #[.agg cs.toArray, .agg ds.toArray] w (Ret fun v w' => v = .bool (unusedR p.topo r) ∧ Below w.heap.size w w') := by
 obtain ⟨A1, c1, A2, c2, A3, c3, A4, c4, A5, c5, A6, c6, A7, c7, hpsz, hp0, hp1, -⟩ := prot_cells h
 obtain ⟨E1, f1, E2, f2, E3, f3, E4, f4, E5, f5, E6, f6, E7, f7, E8, f8, ⟨hrsz, hr0, hr1, hr2, hr3, hr4, hr5, hr6, hr7, hr8, hr9, hr10, hr11, hr12, hr13, hr14, hr15, hr16, hr17⟩, -⟩ := h'.cells
 obtain ⟨hs1, hs2, hs3, hs4, hs5, hs6, hs7, hs8⟩ := hs
 have hU := un_eq p.topo r
 obtain ⟨w1, hw1, hb1, hB1, hk1⟩ := box_blk w cs.toArray 27
 obtain ⟨w2, hw2, hb2, hB2, hk2⟩ := box_blk w1 ds.toArray 51
 have hb02 := hide (hb1.trans (hb2.mono hb1.size))
 have hb02d := hide (hb02.out.trans ((drewB w2).mono hb02.out.size))
 have hc21 := (hB1.below hb2).cell
 have hc22 := hB2.cell
 generalize cs.toArray = pc at *
 generalize ds.toArray = rc at *
 obtain ⟨ng, hng⟩ : ∃ n, n = r.guards.length := ⟨_, rfl⟩
 rw [← hng] at hU
 obtain ⟨ne, hne⟩ : ∃ n, n = r.ex.length := ⟨_, rfl⟩
 rw [← hne] at hU
 obtain ⟨nf, hnf⟩ : ∃ n, n = r.fa.length := ⟨_, rfl⟩
 rw [← hnf] at hU
 obtain ⟨nd, hnd⟩ : ∃ n, n = r.send.length := ⟨_, rfl⟩
 rw [← hnd] at hU
 obtain ⟨nl, hnl⟩ : ∃ n, n = r.left.length := ⟨_, rfl⟩
 rw [← hnl] at hU
 obtain ⟨nt, hnt⟩ : ∃ n, n = r.right.length := ⟨_, rfl⟩
 rw [← hnt] at hU
 obtain ⟨np, hnp⟩ : ∃ n, n = r.parent.length := ⟨_, rfl⟩
 rw [← hnp] at hU
 obtain ⟨nr, hnr⟩ : ∃ n, n = r.resp.length := ⟨_, rfl⟩
 rw [← hnr] at hU
 rw [← hng] at hr7 hs2
 rw [← hne] at hr8 hs3
 rw [← hnf] at hr9 hs4
 rw [← hnd] at hr12 hs5
 rw [← hnl] at hr14 hs6
 rw [← hnt] at hr15 hs7
 rw [← hnp] at hr16 hs8
 rw [← hnr] at hr6 hs1
 obtain ⟨rd, hrd⟩ : ∃ n, n = r.rd := ⟨_, rfl⟩
 rw [← hrd] at hU hr10
 obtain ⟨wr, hwr⟩ : ∃ n, n = r.wr := ⟨_, rfl⟩
 rw [← hwr] at hU hr11
 obtain ⟨pf, hpf⟩ : ∃ n, n = r.pf := ⟨_, rfl⟩
 rw [← hpf] at hU hr4
 obtain ⟨pt, hpt⟩ : ∃ n, n = r.pt := ⟨_, rfl⟩
 rw [← hpt] at hU hr5
 obtain ⟨ta, hta⟩ : ∃ n, n = r.at_ := ⟨_, rfl⟩
 rw [← hta] at hU hr13
 obtain ⟨di, hdi⟩ : ∃ n, n = r.dir := ⟨_, rfl⟩
 rw [← hdi] at hU hr17
 obtain ⟨kt, hkt⟩ : ∃ n, n = p.topo := ⟨_, rfl⟩
 rw [← hkt] at hU hp1 ⊢
 obtain ⟨kr, hkr⟩ : ∃ n, n = r.kind := ⟨_, rfl⟩
 rw [← hkr] at hU hr1 hk
 have q1 : (kr == 1) = false := by rw [hk.out]; rfl
 have q2 : (kr == 2) = false := by rw [hk.out]; rfl
 have q3 : (kr == 3) = false := by rw [hk.out]; rfl
 have q4 : (kr == 4) = false := by rw [hk.out]; rfl
 have q5 : (kr == 5) = true := by rw [hk.out]; rfl
 have y1 : decide (kr = 1) = false := by rw [hk.out]; rfl
 have y2 : decide (kr = 2) = false := by rw [hk.out]; rfl
 have y3 : decide (kr = 3) = false := by rw [hk.out]; rfl
 have y4 : decide (kr = 4) = false := by rw [hk.out]; rfl
 have y5 : decide (kr = 5) = true := by rw [hk.out]; rfl
 rw [y1, y2, y3, y4, y5] at hU
 have hUH := hide hU
 clear hng hne hnf hnd hnl hnt hnp hnr hrd hwr hpf hpt hta hdi hkt hkr hU y1 y2 y3 y4 y5 hb1 hb2 hB1 hB2 hk1 hk2 hpsz hrsz hp0 hr0 hr2 hr3
 go_enter Tryd.func71, Tryd.ntmps71
 go_wp2_with fail
 refine Reg.cI [0, 1, 3, 0, 8, 24, 0, 64, 192, 0, 512, 1536, 0, 4096, 12288, 7, 32831, 98815, 233471, 524287] [0, 1, 2, 3, 4, 5, 6, 7, 8, 9, 10, 11, 12, 13, 14, 15, 16, 17, 18, 19] ?_
 refine Reg.wI [0, 1, 2, 3, 4, 5, 6, 7, 8, 9, 10, 11, 12, 13, 14, 15, 16, 17, 18, 19] [] rfl fun Qf hQf => ?_
 go_wp2_with fail
 first | refine hQf _ _ ⟨rfl, ?_⟩ | refine ⟨rfl, ?_⟩
 try clear hQf
 first | refine Reg.restI_end ?_ | skip
 go_wp2_with fail
 all_goals
  go_ret
  refine ⟨?_, hb02d.out⟩
  rw [hUH.out]
  refine congrArg Value.bool ?_
  clear q1 q2 q3 q4 q5 hUH hc21 hc22 hw1 hw2 h h' hp1 hr1 hr4 hr5 hr6 hr7 hr8 hr9 hr10 hr11 hr12 hr13 hr14 hr15 hr16 hr17
  unfold unV
  first
   | (simp_all; done)
   | (simp_all; omega)
   | (by_cases h4 : kt = 4 <;> simp_all; done)
   | (by_cases h4 : kt = 4 <;> simp_all <;> omega)
theorem unused_0 {w : World} {cs ds : List Value} {p : ProtD} {r : RuleD} (h : ProtIs w w.heap.size cs p) (h' : RuleIs w w.heap.size ds r) (hs : r.Small) (hk : Hid (r.kind ≠ 1 ∧ r.kind ≠ 2 ∧ r.kind ≠ 3 ∧ r.kind ≠ 4 ∧ r.kind ≠ 5)) :
  Calls Tryd.prog 71 #[.agg cs.toArray, .agg ds.toArray] w (Ret fun v w' => v = .bool (unusedR p.topo r) ∧ Below w.heap.size w w') := by
 obtain ⟨A1, c1, A2, c2, A3, c3, A4, c4, A5, c5, A6, c6, A7, c7, hpsz, hp0, hp1, -⟩ := prot_cells h
 obtain ⟨E1, f1, E2, f2, E3, f3, E4, f4, E5, f5, E6, f6, E7, f7, E8, f8, ⟨hrsz, hr0, hr1, hr2, hr3, hr4, hr5, hr6, hr7, hr8, hr9, hr10, hr11, hr12, hr13, hr14, hr15, hr16, hr17⟩, -⟩ := h'.cells
 obtain ⟨hs1, hs2, hs3, hs4, hs5, hs6, hs7, hs8⟩ := hs
 have hU := un_eq p.topo r
 obtain ⟨w1, hw1, hb1, hB1, hk1⟩ := box_blk w cs.toArray 27
 obtain ⟨w2, hw2, hb2, hB2, hk2⟩ := box_blk w1 ds.toArray 51
 have hb02 := hide (hb1.trans (hb2.mono hb1.size))
 have hb02d := hide (hb02.out.trans ((drewB w2).mono hb02.out.size))
 have hc21 := (hB1.below hb2).cell
 have hc22 := hB2.cell
 generalize cs.toArray = pc at *
 generalize ds.toArray = rc at *
 obtain ⟨ng, hng⟩ : ∃ n, n = r.guards.length := ⟨_, rfl⟩
 rw [← hng] at hU
 obtain ⟨ne, hne⟩ : ∃ n, n = r.ex.length := ⟨_, rfl⟩
 rw [← hne] at hU
 obtain ⟨nf, hnf⟩ : ∃ n, n = r.fa.length := ⟨_, rfl⟩
 rw [← hnf] at hU
 obtain ⟨nd, hnd⟩ : ∃ n, n = r.send.length := ⟨_, rfl⟩
 rw [← hnd] at hU
 obtain ⟨nl, hnl⟩ : ∃ n, n = r.left.length := ⟨_, rfl⟩
 rw [← hnl] at hU
 obtain ⟨nt, hnt⟩ : ∃ n, n = r.right.length := ⟨_, rfl⟩
 rw [← hnt] at hU
 obtain ⟨np, hnp⟩ : ∃ n, n = r.parent.length := ⟨_, rfl⟩
 rw [← hnp] at hU
 obtain ⟨nr, hnr⟩ : ∃ n, n = r.resp.length := ⟨_, rfl⟩
 rw [← hnr] at hU
 rw [← hng] at hr7 hs2
 rw [← hne] at hr8 hs3
 rw [← hnf] at hr9 hs4
 rw [← hnd] at hr12 hs5
 rw [← hnl] at hr14 hs6
 rw [← hnt] at hr15 hs7
 rw [← hnp] at hr16 hs8
 rw [← hnr] at hr6 hs1
 obtain ⟨rd, hrd⟩ : ∃ n, n = r.rd := ⟨_, rfl⟩
 rw [← hrd] at hU hr10
 obtain ⟨wr, hwr⟩ : ∃ n, n = r.wr := ⟨_, rfl⟩
 rw [← hwr] at hU hr11
 obtain ⟨pf, hpf⟩ : ∃ n, n = r.pf := ⟨_, rfl⟩
 rw [← hpf] at hU hr4
 obtain ⟨pt, hpt⟩ : ∃ n, n = r.pt := ⟨_, rfl⟩
 rw [← hpt] at hU hr5
 obtain ⟨ta, hta⟩ : ∃ n, n = r.at_ := ⟨_, rfl⟩
 rw [← hta] at hU hr13
 obtain ⟨di, hdi⟩ : ∃ n, n = r.dir := ⟨_, rfl⟩
 rw [← hdi] at hU hr17
 obtain ⟨kt, hkt⟩ : ∃ n, n = p.topo := ⟨_, rfl⟩
 rw [← hkt] at hU hp1 ⊢
 obtain ⟨kr, hkr⟩ : ∃ n, n = r.kind := ⟨_, rfl⟩
 rw [← hkr] at hU hr1 hk
 have q1 : (kr == 1) = false := by have := hk.out; simp; omega
 have q2 : (kr == 2) = false := by have := hk.out; simp; omega
 have q3 : (kr == 3) = false := by have := hk.out; simp; omega
 have q4 : (kr == 4) = false := by have := hk.out; simp; omega
 have q5 : (kr == 5) = false := by have := hk.out; simp; omega
 have y1 : decide (kr = 1) = false := by have := hk.out; simp; omega
 have y2 : decide (kr = 2) = false := by have := hk.out; simp; omega
 have y3 : decide (kr = 3) = false := by have := hk.out; simp; omega
 have y4 : decide (kr = 4) = false := by have := hk.out; simp; omega
 have y5 : decide (kr = 5) = false := by have := hk.out; simp; omega
 rw [y1, y2, y3, y4, y5] at hU
 have hUH := hide hU
 clear hng hne hnf hnd hnl hnt hnp hnr hrd hwr hpf hpt hta hdi hkt hkr hU y1 y2 y3 y4 y5 hb1 hb2 hB1 hB2 hk1 hk2 hpsz hrsz hp0 hr0 hr2 hr3
 go_enter Tryd.func71, Tryd.ntmps71
 go_wp2_with fail
 refine Reg.cI [0, 1, 3, 0, 8, 24, 0, 64, 192, 0, 512, 1536, 0, 4096, 12288, 7, 32831, 98815, 233471, 524287] [0, 1, 2, 3, 4, 5, 6, 7, 8, 9, 10, 11, 12, 13, 14, 15, 16, 17, 18, 19] ?_
 refine Reg.wI [0, 1, 2, 3, 4, 5, 6, 7, 8, 9, 10, 11, 12, 13, 14, 15, 16, 17, 18, 19] [] rfl fun Qf hQf => ?_
 go_wp2_with fail
 first | refine hQf _ _ ⟨rfl, ?_⟩ | refine ⟨rfl, ?_⟩
 try clear hQf
 first | refine Reg.restI_end ?_ | skip
 go_wp2_with fail
 all_goals
  go_ret
  refine ⟨?_, hb02d.out⟩
  rw [hUH.out]
  refine congrArg Value.bool ?_
  clear q1 q2 q3 q4 q5 hUH hc21 hc22 hw1 hw2 h h' hp1 hr1 hr4 hr5 hr6 hr7 hr8 hr9 hr10 hr11 hr12 hr13 hr14 hr15 hr16 hr17
  unfold unV
  first
   | (simp_all; done)
   | (simp_all; omega)
   | (by_cases h4 : kt = 4 <;> simp_all; done)
   | (by_cases h4 : kt = 4 <;> simp_all <;> omega)
theorem unused_any {w : World} {cs ds : List Value} {p : ProtD} {r : RuleD} (h : ProtIs w w.heap.size cs p) (h' : RuleIs w w.heap.size ds r) (hs : r.Small) :
  Calls Tryd.prog 71 #[.agg cs.toArray, .agg ds.toArray] w (Ret fun v w' => v = .bool (unusedR p.topo r) ∧ Below w.heap.size w w') := by
 by_cases k1 : r.kind = 1
 ·exact unused_1 h h' hs k1
 by_cases k2 : r.kind = 2
 ·exact unused_2 h h' hs k2
 by_cases k3 : r.kind = 3
 ·exact unused_3 h h' hs k3
 by_cases k4 : r.kind = 4
 ·exact unused_4 h h' hs k4
 by_cases k5 : r.kind = 5
 ·exact unused_5 h h' hs k5
 exact unused_0 h h' hs ⟨k1, k2, k3, k4, k5⟩
end Go.Proofs.YtbjdgepfhhafjaaDoor
namespace Go.Proofs.YtbjdgepfhhafjaaDoor
open Go.RowKit
def inN (x : Int) (n : Int) : Bool := inC x 0 (n - 1)
structure Un (r : RuleD) : Prop where
 g : r.kind ≠ 1 → r.guards = [] ∧ r.ex = [] ∧ r.fa = [] ∧ r.send = []
 v : r.kind = 4 ∨ r.kind = 5 → r.rd = -1 ∧ r.wr = -1
 l : r.kind ≠ 4 → r.left = [] ∧ r.right = [] ∧ r.parent = []
theorem un_of {topo : Int} {r : RuleD} (h : unusedR topo r = false) : Un r := by
 unfold unusedR at h
 simp only [Bool.or_eq_false_iff, Bool.and_eq_false_iff, Bool.not_eq_false', decide_eq_true_eq, List.isEmpty_iff] at h
 obtain ⟨⟨⟨⟨⟨⟨h1, h2⟩, h3⟩, h4⟩, h5⟩, h6⟩, h7⟩ := h
 refine ⟨fun k => ?_, fun k => ?_, fun k => ?_⟩
 ·rcases h1 with h1 | h1
  ·exact absurd h1 k
  ·exact ⟨h1.1.1.1, h1.1.1.2, h1.1.2, h1.2⟩
 ·rcases h2 with h2 | h2
  ·rcases k with k | k <;> omega
  ·exact h2
 ·rcases h6 with h6 | h6
  ·exact absurd h6 k
  ·rcases h7 with h7 | h7
   ·exact ⟨h6.1.2, h6.2, h7⟩
   ·simp [k] at h7
section
variable {ok : ByteArray → Bool} {topo n m k : Int} {r : RuleD}
theorem set_nil (n : Int) : setE [] n = 0 := rfl
structure KOK (ok : ByteArray → Bool) (topo : Int) (r : RuleD) : Prop where
 name : ok r.name = true
 kind : (decide (1 ≤ r.kind) && decide (r.kind ≤ 5)) = true
 cl : (decide (r.kind ≤ 3) != decide (topo = 1)) = false
 un : unusedR topo r = false
theorem rk_bad (h : ok r.name = false) (t : Bool) : ruleE ok topo n m k t r = 2 := by
 unfold ruleE
 rw [h]
 rfl
theorem rk_taken : ruleE ok topo n m k true r = 2 := by
 unfold ruleE
 cases ok r.name <;> rfl
theorem rk_kind (h : ok r.name = true) (h2 : (!(decide (1 ≤ r.kind) && decide (r.kind ≤ 5)) || (decide (r.kind ≤ 3) != decide (topo = 1)) || unusedR topo r) = true) : ruleE ok topo n m k false r = 6 := by
 unfold ruleE
 rw [h, h2]
 rfl
theorem rk_1 (h : KOK ok topo r) (hk : r.kind = 1) : ruleE ok topo n m k false r = orE (whenE (!inN r.fr n || !inN r.to n) 5) (orE (allE (guardE m) r.guards) (orE (whenE (decide (2 < r.guards.length)) 4) (orE (setE r.ex n) (orE (setE r.fa n) (orE (whenE (!valB r.rd k || !valB r.wr k) 5) (setE r.send m)))))) := by
 obtain ⟨a1, a2, a3⟩ := (un_of h.un).l (by omega)
 unfold ruleE
 rw [h.name, h.kind, h.cl, h.un, a1, a2, a3, set_nil, hk]
 simp [whenE, orE_self0, inN, inE_inC, orE_zero]
theorem rk_2 (h : KOK ok topo r) (hk : r.kind = 2) : ruleE ok topo n m k false r = orE (whenE (!inN r.fr n || !inN r.to n || (!inN r.pf n || !inN r.pt n)) 5) (whenE (!valB r.rd k || !valB r.wr k) 5) := by
 obtain ⟨a1, a2, a3⟩ := (un_of h.un).l (by omega)
 obtain ⟨b1, b2, b3, b4⟩ := (un_of h.un).g (by omega)
 unfold ruleE
 rw [h.name, h.kind, h.cl, h.un, a1, a2, a3, b1, b2, b3, b4, set_nil, set_nil, hk]
 simp [whenE, orE_self0, inN, inE_inC, orE_zero, allE]
theorem rk_3 (h : KOK ok topo r) (hk : r.kind = 3) : ruleE ok topo n m k false r = orE (whenE (!inN r.fr n || !inN r.to n) 5) (orE (respE n r.resp) (whenE (!valB r.rd k || !valB r.wr k) 5)) := by
 obtain ⟨a1, a2, a3⟩ := (un_of h.un).l (by omega)
 obtain ⟨b1, b2, b3, b4⟩ := (un_of h.un).g (by omega)
 unfold ruleE
 rw [h.name, h.kind, h.cl, h.un, a1, a2, a3, b1, b2, b3, b4, set_nil, set_nil, hk]
 simp [whenE, orE_self0, inN, inE_inC, orE_zero, allE]
theorem val_m1 (h0 : 0 ≤ k) : valB (-1) k = true := by
 unfold valB
 rw [decide_eq_true (show (-1 : Int) < k by omega)]
 rfl
theorem val_in {v : Int} (h : v ≠ -1) : valB v k = inC v 0 (k - 1) := by
 unfold valB inC
 rw [decide_eq_decide.2 (show -1 ≤ v ↔ 0 ≤ v by omega), decide_eq_decide.2 (show v < k ↔ v ≤ k - 1 by omega)]
theorem rk_4 (h : KOK ok topo r) (hk : r.kind = 4) (h0 : 0 ≤ k) : ruleE ok topo n m k false r = orE (whenE (!inN r.fr n || !inN r.to n) 5) (orE (setE r.left n) (orE (setE r.right n) (orE (setE r.parent n) (whenE (!inC r.at_ 0 2 || (!decide (r.at_ = 0) && decide (topo = 3))) 1)))) := by
 obtain ⟨b1, b2, b3, b4⟩ := (un_of h.un).g (by omega)
 obtain ⟨c1, c2⟩ := (un_of h.un).v (.inl hk)
 unfold ruleE
 rw [h.name, h.kind, h.cl, h.un, b1, b2, b3, b4, set_nil, set_nil, hk, c1, c2]
 rw [val_m1 h0]
 simp [whenE, orE_self0, inN, inE_inC, orE_zero, allE, inC]
theorem rk_5 (h : KOK ok topo r) (hk : r.kind = 5) (h0 : 0 ≤ k) : ruleE ok topo n m k false r = orE (whenE (!inN r.fr n || !inN r.to n || (!inN r.pf n || !inN r.pt n)) 5) (whenE (if topo = 4 then !inC r.dir 3 4 else !inC r.dir 1 2) 1) := by
 obtain ⟨a1, a2, a3⟩ := (un_of h.un).l (by omega)
 obtain ⟨b1, b2, b3, b4⟩ := (un_of h.un).g (by omega)
 obtain ⟨c1, c2⟩ := (un_of h.un).v (.inr hk)
 unfold ruleE
 rw [h.name, h.kind, h.cl, h.un, a1, a2, a3, b1, b2, b3, b4, set_nil, set_nil, hk, c1, c2]
 rw [val_m1 h0]
 by_cases ht : topo = 4 <;> simp [whenE, orE_self0, inN, inE_inC, orE_zero, allE, inC, ht]
end
end Go.Proofs.YtbjdgepfhhafjaaDoor
namespace Go.Proofs.YtbjdgepfhhafjaaDoor
open Go.RowKit
attribute [-go_sem] loadCellsFrom storeCells
theorem distinct_any {w : World} {cs : List Value} {p : ProtD} (h : ProtIs w w.heap.size cs p) (hsm : p.Small) :
  Calls Tryd.prog 48 #[.agg cs.toArray] w (Ret fun v w' => w'.ownsRow w.heap.size 113 6 v (thrsL p.rules).length (thrV (thrsL p.rules)) ∧ Below w.heap.size w w') := by
 have hg60 := hide (show ∀ r ∈ p.rules, r.guards.length ≤ 60 from fun r hr => (hsm.rule r hr).1.2.1)
 have hr30 := hsm.rules
 obtain ⟨hpsz, A7, c7, hp9, hrows, hcap⟩ := h.rules_at
 generalize hpc : cs.toArray = pc at *
 clear hpc h
 generalize hrl : p.rules = rs at *
 clear hrl hsm
 obtain ⟨w1, hw1, hb1, hB1, hk1⟩ := box_blk w pc 27
 have hs1 := hb1.size
 have hc9 : w1.cell? ⟨w.heap.size, 9, none⟩ = some (.slice A7 rs.length c7) := by rw [hB1.cell, hp9]
 have hR1 := hide (hrows.keep (w' := w1) (B' := w1.heap.size) (R' := RuleIs w1 w1.heap.size) (fun _ hp => hb1.cell hp) (fun _ _ h => h.keep (fun _ hp => hb1.cell hp) hs1) hs1)
 have hbH := hide hb1
 have hlt1 := hB1.lt
 clear hrows hb1 hk1 hB1 hp9
 go_enter Tryd.func48, Tryd.ntmps48
 go_wp2_with fail
 go_loopw [3, 4] (fun vv ii wr => ∃ (i n : Nat), ii = .int .i64 (i : Int) ∧ i ≤ rs.length ∧ Hid (wr.ownsRow w1.heap.size 113 6 vv n (thrV (thrsL (rs.take i)))) ∧ Hid (n = (thrsL (rs.take i)).length) ∧ Hid (Below w1.heap.size w1 wr)) (fun _ ii _ => rs.length - (intOf ii).toNat)
 case atStart => exact ⟨0, 0, rfl, Nat.zero_le _, World.ownsRow_nil _ _ _ _, by show _ = _; rfl, Below.refl _ _⟩
 case round =>
  obtain ⟨i, n, rfl, hi, hO, hn, hB⟩ := hrel
  by_cases hlt : i < rs.length
  ·obtain ⟨r, hr⟩ : ∃ r, rs[i]? = some r := ⟨_, List.getElem?_eq_getElem hlt⟩
   obtain ⟨b, off, rc, hA, hbk, hC, hcs, hlc⟩ := rows_rule (hR1.out.keep (w' := wr) (B' := w1.heap.size) (R' := RuleIs wr w1.heap.size) (fun _ hp => hB.out.cell hp) (fun _ _ h => h.keep (fun _ hp => hB.out.cell hp) (Nat.le_refl _)) (Nat.le_refl _)) hr
   obtain ⟨Eg, fg, hc7, hSl⟩ := hC.guards
   have hrH := hide hr
   have hCH := hide hC
   have hc57 : w1.cell? ⟨b, off + i * 18 + 7, none⟩ = some (.slice Eg r.guards.length fg) := (hB.out.cell (p := ⟨b, off + i * 18 + 7, none⟩) hbk).symm.trans (hcs 7 _ hc7)
   have hgl := hg60.out r (List.mem_of_getElem? hr)
   have hO2 := hide hO.out
   have hc9r := (hB.out.cell (p := ⟨w.heap.size, 9, none⟩) hlt1).trans hc9
   have hS2 := hide (hSl.keep (w' := w1) (B' := w1.heap.size) (fun _ hp => (hB.out.cell hp).symm) (Nat.le_refl _))
   have hB2H := hide hB.out
   have hthr := hide (thrs_take hr)
   have hnl := hide (thrs_len (rs.take i) (fun r hr => hg60.out r (List.mem_of_mem_take hr)))
   have hn60 : n ≤ 1800 := by
    have h1 := hnl.out
    rw [hn.out]
    rw [List.length_take] at h1
    omega
   subst hA
   clear hcs hC hr hc7 hO hSl hlc
   go_wp2_with fail
   go_loopw [3, 5] (fun vv jj wr => ∃ (j n : Nat), jj = .int .i64 (j : Int) ∧ j ≤ r.guards.length ∧ n ≤ 1800 + j ∧ Hid (wr.ownsRow w1.heap.size 113 6 vv n (thrV ((r.guards.take j).foldl addT (thrsL (rs.take i))))) ∧ Hid (n = ((r.guards.take j).foldl addT (thrsL (rs.take i))).length) ∧ Hid (Below w1.heap.size w1 wr)) (fun _ jj _ => r.guards.length - (intOf jj).toNat)
   case atStart => exact ⟨0, n, rfl, Nat.zero_le _, by omega, by show World.ownsRow _ _ _ _ _ _ _; simpa using hO2.out, by show _ = _; simpa using hn.out, hB2H.out⟩
   case round =>
    obtain ⟨j, m, rfl, hj, hm, hO, hmn, hBj⟩ := hrel
    by_cases hltj : j < r.guards.length
    ·have hc9s := (hBj.out.cell (p := ⟨w.heap.size, 9, none⟩) hlt1).trans hc9
     have hc57s := (hBj.out.cell (p := ⟨b, off + i * 18 + 7, none⟩) hbk).trans hc57
     obtain ⟨b2, off2, g, hA2, hbk2, hg, hcg⟩ := (hS2.out.keep (w' := wr) (B' := w1.heap.size) (fun _ hp => hBj.out.cell hp) (Nat.le_refl _)).at hltj
     have hlcg : (loadCellsFrom ⟨b2, off2 + j * 6, none⟩ 0 6 #[]).run Tryd.prog wr = .ok #[.int .i64 g.msg, .int .i64 g.coef, .int .i64 g.bound.c, .int .i64 g.bound.n, .int .i64 g.bound.t, .int .i64 g.bound.f] wr := by
      have := run_loadCells_list (P := Tryd.prog) wr ⟨b2, off2 + j * 6, none⟩ (cellsT g) (fun k v hv => by
       rw [Addr.add_mid]
       have hk := lt_of_get hv
       rw [hcg k hk]
       match k, hk, hv with
       | 0, _, hv => exact congrArg some (Option.some.inj hv)
       | 1, _, hv => exact congrArg some (Option.some.inj hv)
       | 2, _, hv => exact congrArg some (Option.some.inj hv)
       | 3, _, hv => exact congrArg some (Option.some.inj hv)
       | 4, _, hv => exact congrArg some (Option.some.inj hv)
       | 5, _, hv => exact congrArg some (Option.some.inj hv))
      simpa [loadCells, cellsT] using this
     have hft := hide (fold_take hg (thrsL (rs.take i)))
     have haggH := hide (show aggThr g = .agg #[.int .i64 g.msg, .int .i64 g.coef, .int .i64 g.bound.c, .int .i64 g.bound.n, .int .i64 g.bound.t, .int .i64 g.bound.f] from rfl)
     obtain ⟨w3, hw3, hb3, hB3, hk3⟩ := box_blk wr #[.int .i64 g.msg, .int .i64 g.coef, .int .i64 g.bound.c, .int .i64 g.bound.n, .int .i64 g.bound.t, .int .i64 g.bound.f] 113
     have hsc3 : ∀ c : Array Value, c.size = 6 → (storeCells ⟨wr.heap.size, 0, none⟩ [.int .i64 g.msg, .int .i64 g.coef, .int .i64 g.bound.c, .int .i64 g.bound.n, .int .i64 g.bound.t, .int .i64 g.bound.f] 0).run Tryd.prog (wr.alloc (.cells c 113)) = .ok () w3 := fun c hc => by rw [← hw3]; exact store_new wr 113 6 (by kernel_rfl) (rc := #[.int .i64 g.msg, .int .i64 g.coef, .int .i64 g.bound.c, .int .i64 g.bound.n, .int .i64 g.bound.t, .int .i64 g.bound.f]) rfl (by simp [Value.oneCell']) c hc
     have hl3 : (loadCellsFrom ⟨wr.heap.size, 0, none⟩ 0 6 #[]).run Tryd.prog w3 = .ok #[.int .i64 g.msg, .int .i64 g.coef, .int .i64 g.bound.c, .int .i64 g.bound.n, .int .i64 g.bound.t, .int .i64 g.bound.f] w3 := blk_load hB3 rfl
     have hO3 := own_belowB hO.out hb3
     obtain ⟨Av, cv, hv⟩ := slice_of_own hO.out
     subst hv
     have hSv := (own_slT hO3 (by omega)).2
     have hlen : ((r.guards.take j).foldl addT (thrsL (rs.take i))).length = m := hmn.out.symm
     have hct := hide (thrIndex_any (c := cv) (x := g) hSv (Nat.le_refl _))
     rw [hlen, haggH.out] at hct
     have hB3H := hide (hBj.out.trans (hb3.mono hBj.out.size))
     have hgH := hide hg
     have hB3K := hide hB3
     have hO3H := hide hO3
     subst hA2
     clear hcg hk3 hB3 hb3 hg hSv hlen hO hO3
     generalize ((r.guards.take j).foldl addT (thrsL (rs.take i))) = L at *
     cases hmem : decide (g ∈ L)
     ·have hmemH := hide hmem
      clear hmem
      have hZ : ∀ z : Int, (0 ≤ z ↔ g ∈ L) → z < 0 := fun z hz => by
       have h1 := of_decide_eq_false hmemH.out
       have h2 : ¬ 0 ≤ z := fun h => h1 (hz.1 h)
       omega
      have hadd := hide (show addT L g = L ++ [g] from if_neg (of_decide_eq_false hmemH.out))
      go_wp2_with (first
       | (go_at_call 72; refine Calls.ret hct.out ?_; rintro v w4 ⟨⟨z, rfl, hz⟩, hb4⟩; have hzz := hZ z hz; have hl4 := blk_load (n := 6) (hB3K.out.below hb4) rfl; have hO4 := hide (own_belowB hO3H.out hb4); have hB4H := hide (hB3H.out.trans (hb4.mono hB3H.out.size)); clear hb4)
       | (at_builtin; refine wpList_app_new rowT rfl _ _ rfl w1.heap.size _ m _ rfl hO4.out (cellsT g) _ rfl rfl (by simp [cellsT, Value.oneCell']) (by omega) (by have := hB4H.out.size; have := hB2H.out.size; omega) ?_; intro g5 cap5 w5 hown5 hkept5 hmv5 hlt5))
      have hBw := hide (hB4H.out.trans (hkept5.below hB4H.out.size fun b' hb' e => by have := (hO4.out.lt b' e).1; omega))
      clear hkept5 hmv5 hlt5
      exact ⟨⟨j + 1, m + 1, by go_num, by omega, by omega, by show World.ownsRow _ _ _ _ _ _ _; rw [hft.out, hadd.out, thrV_add]; exact hown5, by show _ = _; rw [hft.out, hadd.out, List.length_append, hmn.out]; rfl, hBw.out⟩, by simp [intOf]; omega⟩
     ·have hmemH := hide hmem
      clear hmem
      have hZ : ∀ z : Int, (0 ≤ z ↔ g ∈ L) → ¬ z < 0 := fun z hz => by
       have h1 := of_decide_eq_true hmemH.out
       have h2 := hz.2 h1
       omega
      have hadd := hide (show addT L g = L from if_pos (of_decide_eq_true hmemH.out))
      go_wp2_with (go_at_call 72; refine Calls.ret hct.out ?_; rintro v w4 ⟨⟨z, rfl, hz⟩, hb4⟩; have hzz := hZ z hz; have hO4 := hide (own_belowB hO3H.out hb4); have hB4H := hide (hB3H.out.trans (hb4.mono hB3H.out.size)); clear hb4)
      exact ⟨⟨j + 1, m, by go_num, by omega, by omega, by show World.ownsRow _ _ _ _ _ _ _; rw [hft.out, hadd.out]; exact hO4.out, by show _ = _; rw [hft.out, hadd.out, hmn.out], hB4H.out⟩, by simp [intOf]; omega⟩
    ·have e : j = r.guards.length := by omega
     have hO2 := hO.out
     have hn2 := hmn.out
     rw [e, List.take_length, ← hthr.out] at hO2 hn2
     have hO3 := hide hO2
     have hn3 := hide hn2
     have hc9s := (hBj.out.cell (p := ⟨w.heap.size, 9, none⟩) hlt1).trans hc9
     have hc57s := (hBj.out.cell (p := ⟨b, off + i * 18 + 7, none⟩) hbk).trans hc57
     clear hO2 hn2 e hO hmn
     go_wp2_with fail
     exact ⟨⟨i + 1, m, by go_num, by omega, hO3.out, hn3.out, hBj.out⟩, by simp [intOf]; omega⟩
  ·have e : i = rs.length := by omega
   have hO2 := hO.out
   have hn2 := hn.out
   rw [e, List.take_length] at hO2 hn2
   rw [hn2] at hO2
   have hO3 := hide (own_monoB hO2 hs1)
   have hc9r := (hB.out.cell (p := ⟨w.heap.size, 9, none⟩) hlt1).trans hc9
   clear hO2 hn2 e hO hn
   go_wp2_with fail
   go_ret
   exact ⟨hO3.out, hbH.out.trans (hB.out.mono hs1)⟩
end Go.Proofs.YtbjdgepfhhafjaaDoor
