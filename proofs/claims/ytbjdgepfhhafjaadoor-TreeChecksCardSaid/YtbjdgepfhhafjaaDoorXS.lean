/-
  Part XS of a proof.
-/
import Derived.Test.YtbjdgepfhhafjaaDoorXA
import Derived.Test.YtbjdgepfhhafjaaDoorXR
import Derived.Test.YtbjdgepfhhafjaaDoorXJ
set_option maxHeartbeats 16000000
set_option maxRecDepth 100000
set_option linter.unusedVariables false
set_option linter.unusedSimpArgs false
namespace Go.Proofs.YtbjdgepfhhafjaaDoor
open Go.RowKit
attribute [-go_sem] loadCellsFrom storeCells
theorem rp_a {w : World} {cs ds : List Value} {p : ProtD} {q : PropD} (h : ProtIs w w.heap.size cs p) (h' : PropIs w w.heap.size ds q) (hsm : p.Small) (hsq : q.Small) (hT : SpOK w) {e5 : Int} (he5 : Hid (protE nameOK p = e5)) (hne : (e5 != 0) = true) :
  Calls Tryd.prog 14 #[.agg cs.toArray, .agg ds.toArray] w (Ret fun v w' => v = .int .i64 (propE nameOK p q) ∧ Below w.heap.size w w') := by
 obtain ⟨A1, c1, A2, c2, A3, c3, A4, c4, A5, c5, A6, c6, A7, c7, hpsz, hp0, hp1, hp2, hp3, hp4, hp5, hp6, hp7, hp8, hp9, h1, h2, h3, h4, h5, h6, h7, hcap⟩ := h.cells
 obtain ⟨B1, d1, B2, d2, B3, d3, B4, d4, hqsz, hq0, hq1, hq2, hq3, hq4, hq5, k1, k2, k3, k4⟩ := h'.cells
 have hnmq := hsq.name
 have hm1 := hsq.start
 have hm2 := hsq.bad
 have hm3 := hsq.adj
 have hm4 := hsq.goal
 have hn1 := hsm.states
 have hn5 := hsm.initial
 have hsmH := hide hsm
 have hS5 := hide h5
 have hK1 := hide k1
 have hK2 := hide k2
 have hK3 := hide k3
 have hK4 := hide k4
 obtain ⟨w1, hw1, hb1, hB1, hk1⟩ := box_blk w cs.toArray 27
 obtain ⟨w2, hw2, hb2, hB2, hk2⟩ := box_blk w1 ds.toArray 30
 have hb02 := hide (hb1.trans (hb2.mono hb1.size))
 have hs01 := hb1.size
 have hX2 := hide (show PQX w2 w.heap.size w1.heap.size cs.toArray ds.toArray p q from ⟨h.keep (fun _ hp => hb02.out.cell hp) hb02.out.size, h'.keep (fun _ hp => hb02.out.cell hp) hb02.out.size, hB1.below hb2, hB2, hT.below hb02.out⟩)
 generalize hpc : cs.toArray = pc at *
 generalize hqc : ds.toArray = qc at *
 obtain ⟨ns, hns⟩ : ∃ n, n = p.states.length := ⟨_, rfl⟩
 obtain ⟨ni, hni⟩ : ∃ n, n = p.initial.length := ⟨_, rfl⟩
 obtain ⟨nt, hnt⟩ : ∃ n, n = q.start.length := ⟨_, rfl⟩
 obtain ⟨nb, hnb⟩ : ∃ n, n = q.bad.length := ⟨_, rfl⟩
 obtain ⟨na, hna⟩ : ∃ n, n = q.adj.length := ⟨_, rfl⟩
 obtain ⟨ng, hng⟩ : ∃ n, n = q.goal.length := ⟨_, rfl⟩
 obtain ⟨kq, hkq⟩ : ∃ n, n = q.kind := ⟨_, rfl⟩
 have hLH := hide (show ns = p.states.length ∧ ni = p.initial.length ∧ nt = q.start.length ∧ nb = q.bad.length ∧ na = q.adj.length ∧ ng = q.goal.length ∧ kq = q.kind from ⟨hns, hni, hnt, hnb, hna, hng, hkq⟩)
 rw [← hns] at hp2 hn1
 rw [← hni] at hp7 hn5
 rw [← hnt] at hq2 hm1
 rw [← hnb] at hq3 hm2
 rw [← hna] at hq4 hm3
 rw [← hng] at hq5 hm4
 rw [← hkq] at hq1
 clear hns hni hnt hnb hna hng hkq
 have hpszH := hide hpsz
 have hval : ∀ wx, Hid (PQX wx w.heap.size w1.heap.size pc qc p q) → Calls Tryd.prog 28 #[.agg pc] wx (Ret fun v w' => v = .int .i64 (protE nameOK p) ∧ Below wx.heap.size wx w') := fun wx hx => refProtValidate_any hx.out.pr hsmH.out hx.out.tab
 have hstart : ∀ wx, Below w.heap.size w wx → Calls Tryd.prog 30 #[.slice B1 nt d1, .int .i64 (ns : Int)] wx (Ret fun r w' => r = .int .i64 (setE q.start (ns : Int)) ∧ Below wx.heap.size wx w') := fun wx hx => by
  rw [hLH.out.2.2.1]
  exact refset_any (by omega) (hK1.out.keep (fun _ hp => hx.cell hp) hx.size)
 have hgoal : ∀ wx, Below w.heap.size w wx → Calls Tryd.prog 30 #[.slice B4 ng d4, .int .i64 (ns : Int)] wx (Ret fun r w' => r = .int .i64 (setE q.goal (ns : Int)) ∧ Below wx.heap.size wx w') := fun wx hx => by
  rw [hLH.out.2.2.2.2.2.1]
  exact refset_any (by omega) (hK4.out.keep (fun _ hp => hx.cell hp) hx.size)
 have hcon : ∀ wx x, Below w.heap.size w wx → Calls Tryd.prog 31 #[.slice A5 ni c5, .int .i64 x] wx fun r w' => r = .returned (.bool (decide (x ∈ p.initial))) ∧ wx = w' := fun wx x hx => by
  rw [hLH.out.2.1]
  exact has_any (hS5.out.keep (fun _ hp => hx.cell hp) hx.size)
 have hc22 := hX2.out.b2.cell
 have hc32 := hX2.out.b3.cell
 have hl2 := blk_load hX2.out.b2 hpsz
 have hcapN := hcap
 clear h1 h2 h3 h4 h5 h6 h7 k1 k2 k3 k4 h h' hsm hsq hb1 hb2 hB1 hB2 hk1 hk2 hpc hqc hT hpsz hqsz hcap hcapN
 go_enter Tryd.func14, Tryd.ntmps14
 go_wp2_with fail
 refine Calls.ret (hval _ hX2) ?_; rintro v w3 ⟨rfl, hb3⟩; rw [he5.out]; have hX3 := hide (hX2.out.at hb3); have hc23 := hX3.out.b2.cell; have hc33 := hX3.out.b3.cell; have hb03 := hide (hb02.out.trans (hb3.mono hb02.out.size)); clear hb3; go_wp2_with fail
 go_ret
 exact ⟨congrArg (Value.int .i64) ((qe_prot (by rw [he5.out]; simpa using hne)).trans he5.out).symm, hb03.out⟩
theorem rp_b {w : World} {cs ds : List Value} {p : ProtD} {q : PropD} (h : ProtIs w w.heap.size cs p) (h' : PropIs w w.heap.size ds q) (hsm : p.Small) (hsq : q.Small) (hT : SpOK w) (he5 : Hid (protE nameOK p = 0)) (hok : Hid (nameOK q.name = false)) :
  Calls Tryd.prog 14 #[.agg cs.toArray, .agg ds.toArray] w (Ret fun v w' => v = .int .i64 (propE nameOK p q) ∧ Below w.heap.size w w') := by
 obtain ⟨A1, c1, A2, c2, A3, c3, A4, c4, A5, c5, A6, c6, A7, c7, hpsz, hp0, hp1, hp2, hp3, hp4, hp5, hp6, hp7, hp8, hp9, h1, h2, h3, h4, h5, h6, h7, hcap⟩ := h.cells
 obtain ⟨B1, d1, B2, d2, B3, d3, B4, d4, hqsz, hq0, hq1, hq2, hq3, hq4, hq5, k1, k2, k3, k4⟩ := h'.cells
 have hnmq := hsq.name
 have hm1 := hsq.start
 have hm2 := hsq.bad
 have hm3 := hsq.adj
 have hm4 := hsq.goal
 have hn1 := hsm.states
 have hn5 := hsm.initial
 have hsmH := hide hsm
 have hS5 := hide h5
 have hK1 := hide k1
 have hK2 := hide k2
 have hK3 := hide k3
 have hK4 := hide k4
 obtain ⟨w1, hw1, hb1, hB1, hk1⟩ := box_blk w cs.toArray 27
 obtain ⟨w2, hw2, hb2, hB2, hk2⟩ := box_blk w1 ds.toArray 30
 have hb02 := hide (hb1.trans (hb2.mono hb1.size))
 have hs01 := hb1.size
 have hX2 := hide (show PQX w2 w.heap.size w1.heap.size cs.toArray ds.toArray p q from ⟨h.keep (fun _ hp => hb02.out.cell hp) hb02.out.size, h'.keep (fun _ hp => hb02.out.cell hp) hb02.out.size, hB1.below hb2, hB2, hT.below hb02.out⟩)
 generalize hpc : cs.toArray = pc at *
 generalize hqc : ds.toArray = qc at *
 obtain ⟨ns, hns⟩ : ∃ n, n = p.states.length := ⟨_, rfl⟩
 obtain ⟨ni, hni⟩ : ∃ n, n = p.initial.length := ⟨_, rfl⟩
 obtain ⟨nt, hnt⟩ : ∃ n, n = q.start.length := ⟨_, rfl⟩
 obtain ⟨nb, hnb⟩ : ∃ n, n = q.bad.length := ⟨_, rfl⟩
 obtain ⟨na, hna⟩ : ∃ n, n = q.adj.length := ⟨_, rfl⟩
 obtain ⟨ng, hng⟩ : ∃ n, n = q.goal.length := ⟨_, rfl⟩
 obtain ⟨kq, hkq⟩ : ∃ n, n = q.kind := ⟨_, rfl⟩
 have hLH := hide (show ns = p.states.length ∧ ni = p.initial.length ∧ nt = q.start.length ∧ nb = q.bad.length ∧ na = q.adj.length ∧ ng = q.goal.length ∧ kq = q.kind from ⟨hns, hni, hnt, hnb, hna, hng, hkq⟩)
 rw [← hns] at hp2 hn1
 rw [← hni] at hp7 hn5
 rw [← hnt] at hq2 hm1
 rw [← hnb] at hq3 hm2
 rw [← hna] at hq4 hm3
 rw [← hng] at hq5 hm4
 rw [← hkq] at hq1
 clear hns hni hnt hnb hna hng hkq
 have hpszH := hide hpsz
 have hval : ∀ wx, Hid (PQX wx w.heap.size w1.heap.size pc qc p q) → Calls Tryd.prog 28 #[.agg pc] wx (Ret fun v w' => v = .int .i64 (protE nameOK p) ∧ Below wx.heap.size wx w') := fun wx hx => refProtValidate_any hx.out.pr hsmH.out hx.out.tab
 have hstart : ∀ wx, Below w.heap.size w wx → Calls Tryd.prog 30 #[.slice B1 nt d1, .int .i64 (ns : Int)] wx (Ret fun r w' => r = .int .i64 (setE q.start (ns : Int)) ∧ Below wx.heap.size wx w') := fun wx hx => by
  rw [hLH.out.2.2.1]
  exact refset_any (by omega) (hK1.out.keep (fun _ hp => hx.cell hp) hx.size)
 have hgoal : ∀ wx, Below w.heap.size w wx → Calls Tryd.prog 30 #[.slice B4 ng d4, .int .i64 (ns : Int)] wx (Ret fun r w' => r = .int .i64 (setE q.goal (ns : Int)) ∧ Below wx.heap.size wx w') := fun wx hx => by
  rw [hLH.out.2.2.2.2.2.1]
  exact refset_any (by omega) (hK4.out.keep (fun _ hp => hx.cell hp) hx.size)
 have hcon : ∀ wx x, Below w.heap.size w wx → Calls Tryd.prog 31 #[.slice A5 ni c5, .int .i64 x] wx fun r w' => r = .returned (.bool (decide (x ∈ p.initial))) ∧ wx = w' := fun wx x hx => by
  rw [hLH.out.2.1]
  exact has_any (hS5.out.keep (fun _ hp => hx.cell hp) hx.size)
 have hc22 := hX2.out.b2.cell
 have hc32 := hX2.out.b3.cell
 have hl2 := blk_load hX2.out.b2 hpsz
 have hcapN := hcap
 clear h1 h2 h3 h4 h5 h6 h7 k1 k2 k3 k4 h h' hsm hsq hb1 hb2 hB1 hB2 hk1 hk2 hpc hqc hT hpsz hqsz hcap hcapN
 go_enter Tryd.func14, Tryd.ntmps14
 go_wp2_with fail
 refine Calls.ret (hval _ hX2) ?_; rintro v w3 ⟨rfl, hb3⟩; rw [he5.out]; have hX3 := hide (hX2.out.at hb3); have hc23 := hX3.out.b2.cell; have hc33 := hX3.out.b3.cell; have hb03 := hide (hb02.out.trans (hb3.mono hb02.out.size)); clear hb3; go_wp2_with fail
 refine Calls.ret (refValidName_any q.name _ (by omega)) ?_; rintro v w4 ⟨rfl, hb4⟩; rw [hok.out]; have hX4 := hide (hX3.out.at hb4); have hc24 := hX4.out.b2.cell; have hc34 := hX4.out.b3.cell; have hb04 := hide (hb03.out.trans (hb4.mono hb03.out.size)); clear hb4; go_wp2_with fail
 go_ret
 exact ⟨congrArg (Value.int .i64) (qe_name he5.out hok.out).symm, hb04.out⟩
theorem rp_c {w : World} {cs ds : List Value} {p : ProtD} {q : PropD} (h : ProtIs w w.heap.size cs p) (h' : PropIs w w.heap.size ds q) (hsm : p.Small) (hsq : q.Small) (hT : SpOK w) (he5 : Hid (protE nameOK p = 0)) (hok : Hid (nameOK q.name = true)) (hk1 : q.kind ≠ 1) (hk2 : q.kind ≠ 2) :
  Calls Tryd.prog 14 #[.agg cs.toArray, .agg ds.toArray] w (Ret fun v w' => v = .int .i64 (propE nameOK p q) ∧ Below w.heap.size w w') := by
 obtain ⟨A1, c1, A2, c2, A3, c3, A4, c4, A5, c5, A6, c6, A7, c7, hpsz, hp0, hp1, hp2, hp3, hp4, hp5, hp6, hp7, hp8, hp9, h1, h2, h3, h4, h5, h6, h7, hcap⟩ := h.cells
 obtain ⟨B1, d1, B2, d2, B3, d3, B4, d4, hqsz, hq0, hq1, hq2, hq3, hq4, hq5, k1, k2, k3, k4⟩ := h'.cells
 have hnmq := hsq.name
 have hm1 := hsq.start
 have hm2 := hsq.bad
 have hm3 := hsq.adj
 have hm4 := hsq.goal
 have hn1 := hsm.states
 have hn5 := hsm.initial
 have hsmH := hide hsm
 have hS5 := hide h5
 have hK1 := hide k1
 have hK2 := hide k2
 have hK3 := hide k3
 have hK4 := hide k4
 obtain ⟨w1, hw1, hb1, hB1, hk1⟩ := box_blk w cs.toArray 27
 obtain ⟨w2, hw2, hb2, hB2, hk2⟩ := box_blk w1 ds.toArray 30
 have hb02 := hide (hb1.trans (hb2.mono hb1.size))
 have hs01 := hb1.size
 have hX2 := hide (show PQX w2 w.heap.size w1.heap.size cs.toArray ds.toArray p q from ⟨h.keep (fun _ hp => hb02.out.cell hp) hb02.out.size, h'.keep (fun _ hp => hb02.out.cell hp) hb02.out.size, hB1.below hb2, hB2, hT.below hb02.out⟩)
 generalize hpc : cs.toArray = pc at *
 generalize hqc : ds.toArray = qc at *
 obtain ⟨ns, hns⟩ : ∃ n, n = p.states.length := ⟨_, rfl⟩
 obtain ⟨ni, hni⟩ : ∃ n, n = p.initial.length := ⟨_, rfl⟩
 obtain ⟨nt, hnt⟩ : ∃ n, n = q.start.length := ⟨_, rfl⟩
 obtain ⟨nb, hnb⟩ : ∃ n, n = q.bad.length := ⟨_, rfl⟩
 obtain ⟨na, hna⟩ : ∃ n, n = q.adj.length := ⟨_, rfl⟩
 obtain ⟨ng, hng⟩ : ∃ n, n = q.goal.length := ⟨_, rfl⟩
 obtain ⟨kq, hkq⟩ : ∃ n, n = q.kind := ⟨_, rfl⟩
 have hLH := hide (show ns = p.states.length ∧ ni = p.initial.length ∧ nt = q.start.length ∧ nb = q.bad.length ∧ na = q.adj.length ∧ ng = q.goal.length ∧ kq = q.kind from ⟨hns, hni, hnt, hnb, hna, hng, hkq⟩)
 rw [← hns] at hp2 hn1
 rw [← hni] at hp7 hn5
 rw [← hnt] at hq2 hm1
 rw [← hnb] at hq3 hm2
 rw [← hna] at hq4 hm3
 rw [← hng] at hq5 hm4
 rw [← hkq] at hq1
 clear hns hni hnt hnb hna hng hkq
 have hpszH := hide hpsz
 have hval : ∀ wx, Hid (PQX wx w.heap.size w1.heap.size pc qc p q) → Calls Tryd.prog 28 #[.agg pc] wx (Ret fun v w' => v = .int .i64 (protE nameOK p) ∧ Below wx.heap.size wx w') := fun wx hx => refProtValidate_any hx.out.pr hsmH.out hx.out.tab
 have hstart : ∀ wx, Below w.heap.size w wx → Calls Tryd.prog 30 #[.slice B1 nt d1, .int .i64 (ns : Int)] wx (Ret fun r w' => r = .int .i64 (setE q.start (ns : Int)) ∧ Below wx.heap.size wx w') := fun wx hx => by
  rw [hLH.out.2.2.1]
  exact refset_any (by omega) (hK1.out.keep (fun _ hp => hx.cell hp) hx.size)
 have hgoal : ∀ wx, Below w.heap.size w wx → Calls Tryd.prog 30 #[.slice B4 ng d4, .int .i64 (ns : Int)] wx (Ret fun r w' => r = .int .i64 (setE q.goal (ns : Int)) ∧ Below wx.heap.size wx w') := fun wx hx => by
  rw [hLH.out.2.2.2.2.2.1]
  exact refset_any (by omega) (hK4.out.keep (fun _ hp => hx.cell hp) hx.size)
 have hcon : ∀ wx x, Below w.heap.size w wx → Calls Tryd.prog 31 #[.slice A5 ni c5, .int .i64 x] wx fun r w' => r = .returned (.bool (decide (x ∈ p.initial))) ∧ wx = w' := fun wx x hx => by
  rw [hLH.out.2.1]
  exact has_any (hS5.out.keep (fun _ hp => hx.cell hp) hx.size)
 have hc22 := hX2.out.b2.cell
 have hc32 := hX2.out.b3.cell
 have hl2 := blk_load hX2.out.b2 hpsz
 have hcapN := hcap
 clear h1 h2 h3 h4 h5 h6 h7 k1 k2 k3 k4 h h' hsm hsq hb1 hb2 hB1 hB2 hk1 hk2 hpc hqc hT hpsz hqsz hcap hcapN
 have hfin := hide (qe_kind he5.out hok.out hk1 hk2)
 rw [← hLH.out.2.2.2.2.2.2] at hk1 hk2
 have hy1 : (kq != 1) = true := by simp [hk1]
 have hy2 : (kq != 2) = true := by simp [hk2]
 clear hk1 hk2
 go_enter Tryd.func14, Tryd.ntmps14
 go_wp2_with fail
 refine Calls.ret (hval _ hX2) ?_; rintro v w3 ⟨rfl, hb3⟩; rw [he5.out]; have hX3 := hide (hX2.out.at hb3); have hc23 := hX3.out.b2.cell; have hc33 := hX3.out.b3.cell; have hb03 := hide (hb02.out.trans (hb3.mono hb02.out.size)); clear hb3; go_wp2_with fail
 refine Calls.ret (refValidName_any q.name _ (by omega)) ?_; rintro v w4 ⟨rfl, hb4⟩; rw [hok.out]; have hX4 := hide (hX3.out.at hb4); have hc24 := hX4.out.b2.cell; have hc34 := hX4.out.b3.cell; have hb04 := hide (hb03.out.trans (hb4.mono hb03.out.size)); clear hb4; go_wp2_with fail
 go_ret
 exact ⟨congrArg (Value.int .i64) (hfin.out).symm, hb04.out⟩
end Go.Proofs.YtbjdgepfhhafjaaDoor
namespace Go.Proofs.YtbjdgepfhhafjaaDoor
open Go.RowKit
attribute [-go_sem] loadCellsFrom storeCells
theorem rp_2 {w : World} {cs ds : List Value} {p : ProtD} {q : PropD} (h : ProtIs w w.heap.size cs p) (h' : PropIs w w.heap.size ds q) (hsm : p.Small) (hsq : q.Small) (hT : SpOK w) (he5 : Hid (protE nameOK p = 0)) (hok : Hid (nameOK q.name = true)) (hk2 : Hid (q.kind = 2)) :
  Calls Tryd.prog 14 #[.agg cs.toArray, .agg ds.toArray] w (Ret fun v w' => v = .int .i64 (propE nameOK p q) ∧ Below w.heap.size w w') := by
 obtain ⟨A1, c1, A2, c2, A3, c3, A4, c4, A5, c5, A6, c6, A7, c7, hpsz, hp0, hp1, hp2, hp3, hp4, hp5, hp6, hp7, hp8, hp9, h1, h2, h3, h4, h5, h6, h7, hcap⟩ := h.cells
 obtain ⟨B1, d1, B2, d2, B3, d3, B4, d4, hqsz, hq0, hq1, hq2, hq3, hq4, hq5, k1, k2, k3, k4⟩ := h'.cells
 have hnmq := hsq.name
 have hm1 := hsq.start
 have hm2 := hsq.bad
 have hm3 := hsq.adj
 have hm4 := hsq.goal
 have hn1 := hsm.states
 have hn5 := hsm.initial
 have hsmH := hide hsm
 have hS5 := hide h5
 have hK1 := hide k1
 have hK2 := hide k2
 have hK3 := hide k3
 have hK4 := hide k4
 obtain ⟨w1, hw1, hb1, hB1, hk1⟩ := box_blk w cs.toArray 27
 obtain ⟨w2, hw2, hb2, hB2, hk2⟩ := box_blk w1 ds.toArray 30
 have hb02 := hide (hb1.trans (hb2.mono hb1.size))
 have hs01 := hb1.size
 have hX2 := hide (show PQX w2 w.heap.size w1.heap.size cs.toArray ds.toArray p q from ⟨h.keep (fun _ hp => hb02.out.cell hp) hb02.out.size, h'.keep (fun _ hp => hb02.out.cell hp) hb02.out.size, hB1.below hb2, hB2, hT.below hb02.out⟩)
 generalize hpc : cs.toArray = pc at *
 generalize hqc : ds.toArray = qc at *
 obtain ⟨ns, hns⟩ : ∃ n, n = p.states.length := ⟨_, rfl⟩
 obtain ⟨ni, hni⟩ : ∃ n, n = p.initial.length := ⟨_, rfl⟩
 obtain ⟨nt, hnt⟩ : ∃ n, n = q.start.length := ⟨_, rfl⟩
 obtain ⟨nb, hnb⟩ : ∃ n, n = q.bad.length := ⟨_, rfl⟩
 obtain ⟨na, hna⟩ : ∃ n, n = q.adj.length := ⟨_, rfl⟩
 obtain ⟨ng, hng⟩ : ∃ n, n = q.goal.length := ⟨_, rfl⟩
 obtain ⟨kq, hkq⟩ : ∃ n, n = q.kind := ⟨_, rfl⟩
 have hLH := hide (show ns = p.states.length ∧ ni = p.initial.length ∧ nt = q.start.length ∧ nb = q.bad.length ∧ na = q.adj.length ∧ ng = q.goal.length ∧ kq = q.kind from ⟨hns, hni, hnt, hnb, hna, hng, hkq⟩)
 rw [← hns] at hp2 hn1
 rw [← hni] at hp7 hn5
 rw [← hnt] at hq2 hm1
 rw [← hnb] at hq3 hm2
 rw [← hna] at hq4 hm3
 rw [← hng] at hq5 hm4
 rw [← hkq] at hq1
 clear hns hni hnt hnb hna hng hkq
 have hpszH := hide hpsz
 have hval : ∀ wx, Hid (PQX wx w.heap.size w1.heap.size pc qc p q) → Calls Tryd.prog 28 #[.agg pc] wx (Ret fun v w' => v = .int .i64 (protE nameOK p) ∧ Below wx.heap.size wx w') := fun wx hx => refProtValidate_any hx.out.pr hsmH.out hx.out.tab
 have hstart : ∀ wx, Below w.heap.size w wx → Calls Tryd.prog 30 #[.slice B1 nt d1, .int .i64 (ns : Int)] wx (Ret fun r w' => r = .int .i64 (setE q.start (ns : Int)) ∧ Below wx.heap.size wx w') := fun wx hx => by
  rw [hLH.out.2.2.1]
  exact refset_any (by omega) (hK1.out.keep (fun _ hp => hx.cell hp) hx.size)
 have hgoal : ∀ wx, Below w.heap.size w wx → Calls Tryd.prog 30 #[.slice B4 ng d4, .int .i64 (ns : Int)] wx (Ret fun r w' => r = .int .i64 (setE q.goal (ns : Int)) ∧ Below wx.heap.size wx w') := fun wx hx => by
  rw [hLH.out.2.2.2.2.2.1]
  exact refset_any (by omega) (hK4.out.keep (fun _ hp => hx.cell hp) hx.size)
 have hcon : ∀ wx x, Below w.heap.size w wx → Calls Tryd.prog 31 #[.slice A5 ni c5, .int .i64 x] wx fun r w' => r = .returned (.bool (decide (x ∈ p.initial))) ∧ wx = w' := fun wx x hx => by
  rw [hLH.out.2.1]
  exact has_any (hS5.out.keep (fun _ hp => hx.cell hp) hx.size)
 have hc22 := hX2.out.b2.cell
 have hc32 := hX2.out.b3.cell
 have hl2 := blk_load hX2.out.b2 hpsz
 have hcapN := hcap
 clear h1 h2 h3 h4 h5 h6 h7 k1 k2 k3 k4 h h' hsm hsq hb1 hb2 hB1 hB2 hk1 hk2 hpc hqc hT hpsz hqsz hcap hcapN
 have hy1 : (kq != 1) = true := by rw [hLH.out.2.2.2.2.2.2, hk2.out]; rfl
 have hy2 : (kq != 2) = false := by rw [hLH.out.2.2.2.2.2.2, hk2.out]; rfl
 have hy3 : (kq == 1) = false := by rw [hLH.out.2.2.2.2.2.2, hk2.out]; rfl
 have hy4 : (kq == 2) = true := by rw [hLH.out.2.2.2.2.2.2, hk2.out]; rfl
 go_enter Tryd.func14, Tryd.ntmps14
 go_wp2_with fail
 refine Calls.ret (hval _ hX2) ?_; rintro v w3 ⟨rfl, hb3⟩; rw [he5.out]; have hX3 := hide (hX2.out.at hb3); have hc23 := hX3.out.b2.cell; have hc33 := hX3.out.b3.cell; have hb03 := hide (hb02.out.trans (hb3.mono hb02.out.size)); clear hb3; go_wp2_with fail
 by_cases hgb : (0 : Int) < (nb : Int)
 case pos =>
  refine Calls.ret (refValidName_any q.name _ (by omega)) ?_; rintro v w4 ⟨rfl, hb4⟩; rw [hok.out]; have hX4 := hide (hX3.out.at hb4); have hc24 := hX4.out.b2.cell; have hc34 := hX4.out.b3.cell; have hb04 := hide (hb03.out.trans (hb4.mono hb03.out.size)); clear hb4; go_wp2_with fail
  go_ret
  exact ⟨congrArg (Value.int .i64) (qe_bad he5.out hok.out hk2.out (.inl (by have := hLH.out.2.2.2.1; omega))).symm, hb04.out⟩
 by_cases hga : (0 : Int) < (na : Int)
 case pos =>
  refine Calls.ret (refValidName_any q.name _ (by omega)) ?_; rintro v w4 ⟨rfl, hb4⟩; rw [hok.out]; have hX4 := hide (hX3.out.at hb4); have hc24 := hX4.out.b2.cell; have hc34 := hX4.out.b3.cell; have hb04 := hide (hb03.out.trans (hb4.mono hb03.out.size)); clear hb4; go_wp2_with fail
  go_ret
  exact ⟨congrArg (Value.int .i64) (qe_bad he5.out hok.out hk2.out (.inr (by have := hLH.out.2.2.2.2.1; omega))).symm, hb04.out⟩
 have hV := hide (qe_2 he5.out hok.out hk2.out (by have := hLH.out.2.2.2.1; omega) (by have := hLH.out.2.2.2.2.1; omega))
 refine Calls.ret (refValidName_any q.name _ (by omega)) ?_; rintro v w4 ⟨rfl, hb4⟩; rw [hok.out]; have hX4 := hide (hX3.out.at hb4); have hc24 := hX4.out.b2.cell; have hc34 := hX4.out.b3.cell; have hb04 := hide (hb03.out.trans (hb4.mono hb03.out.size)); clear hb4; go_wp2_with fail
 clear hgb hga hy1 hy2 hy3
 obtain ⟨e6, he6⟩ : ∃ e, Hid (setE q.start (ns : Int) = e) := ⟨_, rfl⟩
 by_cases h06 : e6 = 0
 case neg =>
  have Q6 : (e6 != 0) = true := by simp [h06]
  have H6 := hide h06
  clear h06
  refine Calls.ret (hstart _ hb04.out) ?_; rintro v w5 ⟨rfl, hb5⟩; rw [he6.out]; have hX5 := hide (hX4.out.at hb5); have hc25 := hX5.out.b2.cell; have hc35 := hX5.out.b3.cell; have hb05 := hide (hb04.out.trans (hb5.mono hb04.out.size)); clear hb5; go_wp2_with fail
  go_ret
  exact ⟨congrArg (Value.int .i64) (hV.out.trans (by rw [← hLH.out.1, he6.out]; exact orE_ne H6.out)).symm, hb05.out⟩
 have Q6 : (e6 != 0) = false := by simp [h06]
 have H6 := hide h06
 clear h06
 have hR := hide (show propE nameOK p q = orE (whenE (!inAll p q) 5) (tail2 p q) from hV.out.trans (by rw [← hLH.out.1, he6.out, H6.out]; rfl))
 refine Calls.ret (hstart _ hb04.out) ?_; rintro v w5 ⟨rfl, hb5⟩; rw [he6.out]; have hX5 := hide (hX4.out.at hb5); have hc25 := hX5.out.b2.cell; have hc35 := hX5.out.b3.cell; have hb05 := hide (hb04.out.trans (hb5.mono hb04.out.size)); clear hb5; go_wp2_with fail
 clear Q6
 go_loopw [8] (fun ii wr => ∃ (k : Nat), ii = .int .i64 (k : Int) ∧ k ≤ nt ∧ Hid (Below w5.heap.size w5 wr) ∧ Hid ((q.start.take k).all (fun x => decide (x ∈ p.initial)) = true)) (fun ii _ => nt - (intOf ii).toNat)
 case atStart => exact ⟨0, rfl, Nat.zero_le _, Below.refl _ _, by show _ = _; simp⟩
 case round =>
  obtain ⟨k, rfl, hk, hbr, hE⟩ := hrel
  have hX6 := hide (hX5.out.at hbr.out)
  have hc26 := hX6.out.b2.cell
  have hc36 := hX6.out.b3.cell
  have hb06 := hide (hb05.out.trans (hbr.out.mono hb05.out.size))
  by_cases hlt : k < nt
  ·obtain ⟨b, off, x, hA, hbk, hx, hcx⟩ := (hK1.out.keep (w' := wr) (B' := w.heap.size) (fun _ hp => hb06.out.cell hp) (Nat.le_refl _)).at (k := k) (by have := hLH.out.2.2.1; omega)
   have d0 := hcx 0 (by omega)
   simp only [Nat.add_zero, Nat.mul_one, encI] at d0
   have hxH := hide hx
   have hb6d := hide (hbr.out.trans ((drewB wr).mono hbr.out.size))
   have hb06d := hide (hb06.out.trans ((drewB wr).mono hb06.out.size))
   subst hA
   clear hcx hx
   have hcx := hide (hcon _ x hb06d.out)
   cases hv : decide (x ∈ p.initial)
   ·have hst := hide (show inAll p q = false from by
     unfold inAll
     rw [List.all_eq_false]
     exact ⟨x, List.mem_of_getElem? hxH.out, by rw [hv]; decide⟩)
    rw [hv] at hcx
    clear hv
    go_wp2_with fail
    refine Reg.cP [0, 1, 0, 4, 0, 28, 60, 127, 255] ?_
    go_wp2_with (go_at_call 31; refine hcx.out.mono ?_; rintro r w' ⟨rfl, rfl⟩)
    go_ret
    exact ⟨congrArg (Value.int .i64) (hR.out.trans (by rw [hst.out]; rfl)).symm, hb06d.out⟩
   ·have hres := hide (all_take_more (p := fun x => decide (x ∈ p.initial)) hxH.out hE.out hv)
    rw [hv] at hcx
    clear hv
    go_wp2_with fail
    refine Reg.cP [0, 1, 0, 4, 0, 28, 60, 127, 255] ?_
    go_wp2_with (go_at_call 31; refine hcx.out.mono ?_; rintro r w' ⟨rfl, rfl⟩)
    exact ⟨⟨k + 1, by go_num, by omega, hb6d.out, hres.out⟩, by simp [intOf]; omega⟩
  ·have hall := hide (show inAll p q = true from by
    have h1 := hLH.out.2.2.1
    have h2 := hE.out
    rwa [List.take_of_length_le (by omega)] at h2)
   have hR2 := hide (show propE nameOK p q = tail2 p q from by rw [hR.out, hall.out]; rfl)
   clear hE
   go_wp2_with fail
   have hR3 := hide (show propE nameOK p q = orE (setE q.goal (ns : Int)) (whenE (decide (ng = 0)) 1) from hR2.out.trans (by
    unfold tail2
    rw [isEmpty_len q.goal, ← hLH.out.2.2.2.2.2.1, ← hLH.out.1]))
   obtain ⟨eg, heg⟩ : ∃ e, Hid (setE q.goal (ns : Int) = e) := ⟨_, rfl⟩
   by_cases h0g : eg = 0
   case neg =>
    have Qg : (eg != 0) = true := by simp [h0g]
    have Hg := hide h0g
    clear h0g
    refine Calls.ret (hgoal _ hb06.out) ?_; rintro v w7 ⟨rfl, hb7⟩; rw [heg.out]; have hX7 := hide (hX6.out.at hb7); have hc27 := hX7.out.b2.cell; have hc37 := hX7.out.b3.cell; have hb07 := hide (hb06.out.trans (hb7.mono hb06.out.size)); clear hb7; go_wp2_with fail
    go_ret
    exact ⟨congrArg (Value.int .i64) (hR3.out.trans (by rw [heg.out]; exact orE_ne Hg.out)).symm, hb07.out⟩
   have Qg : (eg != 0) = false := by simp [h0g]
   have Hg := hide h0g
   clear h0g
   by_cases hg0 : ng = 0
   ·have Qn : ((ng : Int) == 0) = true := by simp [hg0]
    have Hn := hide hg0
    clear hg0
    refine Calls.ret (hgoal _ hb06.out) ?_; rintro v w7 ⟨rfl, hb7⟩; rw [heg.out]; have hX7 := hide (hX6.out.at hb7); have hc27 := hX7.out.b2.cell; have hc37 := hX7.out.b3.cell; have hb07 := hide (hb06.out.trans (hb7.mono hb06.out.size)); clear hb7; go_wp2_with fail
    go_ret
    exact ⟨congrArg (Value.int .i64) (hR3.out.trans (by rw [heg.out, Hg.out, decide_eq_true Hn.out]; rfl)).symm, hb07.out⟩
   ·have Qn : ((ng : Int) == 0) = false := by simp [hg0]
    have Hn := hide hg0
    clear hg0
    refine Calls.ret (hgoal _ hb06.out) ?_; rintro v w7 ⟨rfl, hb7⟩; rw [heg.out]; have hX7 := hide (hX6.out.at hb7); have hc27 := hX7.out.b2.cell; have hc37 := hX7.out.b3.cell; have hb07 := hide (hb06.out.trans (hb7.mono hb06.out.size)); clear hb7; go_wp2_with fail
    go_ret
    exact ⟨congrArg (Value.int .i64) (hR3.out.trans (by rw [heg.out, Hg.out, decide_eq_false Hn.out]; rfl)).symm, hb07.out⟩
end Go.Proofs.YtbjdgepfhhafjaaDoor
