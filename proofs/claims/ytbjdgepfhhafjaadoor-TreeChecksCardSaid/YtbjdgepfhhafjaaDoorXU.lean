/-
  Part XU of a proof.
-/
import Derived.Test.YtbjdgepfhhafjaaDoorXA
import Derived.Test.YtbjdgepfhhafjaaDoorXJ
set_option maxHeartbeats 16000000
set_option maxRecDepth 100000
set_option linter.unusedVariables false
set_option linter.unusedSimpArgs false
namespace Go.Proofs.YtbjdgepfhhafjaaDoor
open Go.RowKit
attribute [-go_sem] loadCellsFrom storeCells
theorem vp_a {w : World} {cs ds : List Value} {p : ProtD} {q : PropD} (h : ProtIs w w.heap.size cs p) (h' : PropIs w w.heap.size ds q) (hsm : p.Small) (hsq : q.Small) (hT : SpOK w) {e5 : Int} (he5 : Hid (protE nameOK p = e5)) (hne : (e5 != 0) = true) :
  Calls Tryd.prog 12 #[.agg cs.toArray, .agg ds.toArray] w (Ret fun v w' => v = .int .i64 (e5) ∧ Below w.heap.size w w') := by
 obtain ⟨A1, c1, A2, c2, A3, c3, A4, c4, A5, c5, A6, c6, A7, c7, hpsz, hp0, hp1, hp2, hp3, hp4, hp5, hp6, hp7, hp8, hp9, h1, h2, h3, h4, h5, h6, h7, hcap⟩ := h.cells
 obtain ⟨B1, d1, B2, d2, B3, d3, B4, d4, hqsz, hq0, hq1, hq2, hq3, hq4, hq5, k1, k2, k3, k4⟩ := h'.cells
 have hnmq := hsq.name
 have hm1 := hsq.start
 have hm2 := hsq.bad
 have hm3 := hsq.adj
 have hm4 := hsq.goal
 have hn1 := hsm.states
 have hn5 := hsm.initial
 have hsmH := hide hsm
 have hS5 := hide h5
 have hK1 := hide k1
 have hK2 := hide k2
 have hK3 := hide k3
 have hK4 := hide k4
 obtain ⟨w1, hw1, hb1, hB1, hk1⟩ := box_blk w cs.toArray 27
 obtain ⟨w2, hw2, hb2, hB2, hk2⟩ := box_blk w1 ds.toArray 30
 have hb02 := hide (hb1.trans (hb2.mono hb1.size))
 have hs01 := hb1.size
 have hX2 := hide (show PQX w2 w.heap.size w1.heap.size cs.toArray ds.toArray p q from ⟨h.keep (fun _ hp => hb02.out.cell hp) hb02.out.size, h'.keep (fun _ hp => hb02.out.cell hp) hb02.out.size, hB1.below hb2, hB2, hT.below hb02.out⟩)
 generalize hpc : cs.toArray = pc at *
 generalize hqc : ds.toArray = qc at *
 obtain ⟨ns, hns⟩ : ∃ n, n = p.states.length := ⟨_, rfl⟩
 obtain ⟨ni, hni⟩ : ∃ n, n = p.initial.length := ⟨_, rfl⟩
 obtain ⟨nt, hnt⟩ : ∃ n, n = q.start.length := ⟨_, rfl⟩
 obtain ⟨nb, hnb⟩ : ∃ n, n = q.bad.length := ⟨_, rfl⟩
 obtain ⟨na, hna⟩ : ∃ n, n = q.adj.length := ⟨_, rfl⟩
 obtain ⟨ng, hng⟩ : ∃ n, n = q.goal.length := ⟨_, rfl⟩
 obtain ⟨kq, hkq⟩ : ∃ n, n = q.kind := ⟨_, rfl⟩
 have hLH := hide (show ns = p.states.length ∧ ni = p.initial.length ∧ nt = q.start.length ∧ nb = q.bad.length ∧ na = q.adj.length ∧ ng = q.goal.length ∧ kq = q.kind from ⟨hns, hni, hnt, hnb, hna, hng, hkq⟩)
 rw [← hns] at hp2 hn1
 rw [← hni] at hp7 hn5
 rw [← hnt] at hq2 hm1
 rw [← hnb] at hq3 hm2
 rw [← hna] at hq4 hm3
 rw [← hng] at hq5 hm4
 rw [← hkq] at hq1
 clear hns hni hnt hnb hna hng hkq
 have hpszH := hide hpsz
 have hval : ∀ wx, Hid (PQX wx w.heap.size w1.heap.size pc qc p q) → Calls Tryd.prog 20 #[.agg pc] wx (Ret fun v w' => v = .int .i64 (protE nameOK p) ∧ Below wx.heap.size wx w') := fun wx hx => protValidate_any hx.out.pr hsmH.out hx.out.tab
 have hstart : ∀ wx, Below w.heap.size w wx → Calls Tryd.prog 22 #[.slice B1 nt d1, .int .i64 (ns : Int)] wx (Ret fun r w' => r = .int .i64 (setE q.start (ns : Int)) ∧ Below wx.heap.size wx w') := fun wx hx => by
  rw [hLH.out.2.2.1]
  exact set_any (hK1.out.keep (fun _ hp => hx.cell hp) hx.size)
 have hgoal : ∀ wx, Below w.heap.size w wx → Calls Tryd.prog 22 #[.slice B4 ng d4, .int .i64 (ns : Int)] wx (Ret fun r w' => r = .int .i64 (setE q.goal (ns : Int)) ∧ Below wx.heap.size wx w') := fun wx hx => by
  rw [hLH.out.2.2.2.2.2.1]
  exact set_any (hK4.out.keep (fun _ hp => hx.cell hp) hx.size)
 have hcon : ∀ wx x, Below w.heap.size w wx → Calls Tryd.prog 23 #[.slice A5 ni c5, .int .i64 x] wx fun r w' => r = .returned (.bool (decide (x ∈ p.initial))) ∧ wx = w' := fun wx x hx => by
  rw [hLH.out.2.1]
  exact containsI_any (hS5.out.keep (fun _ hp => hx.cell hp) hx.size)
 have hcounts : ∀ wx, Below w.heap.size w wx → Calls Tryd.prog 26 #[.slice B2 nb d2, .int .i64 (ns : Int)] wx (Ret fun r w' => r = .int .i64 (allE (countE (ns : Int)) q.bad) ∧ Below wx.heap.size wx w') := fun wx hx => by
  rw [hLH.out.2.2.2.1]
  exact counts_any (hK2.out.keep (fun _ hp => hx.cell hp) (fun _ _ h => h.keep (fun _ hp => hx.cell hp) hx.size) hx.size)
 have hadj : ∀ wx, Hid (PQX wx w.heap.size w1.heap.size pc qc p q) → Below w.heap.size w wx → Calls Tryd.prog 27 #[.agg pc, .slice B3 na d3] wx (Ret fun r w' => r = .int .i64 (adjE p.topo (ns : Int) q.adj) ∧ Below wx.heap.size wx w') := fun wx hXx hx => by
  rw [hLH.out.2.2.2.2.1, hLH.out.1]
  exact adjacent_any hXx.out.pr (hK3.out.keep (fun _ hp => hx.cell hp) hx.size)
 have hc22 := hX2.out.b2.cell
 have hc32 := hX2.out.b3.cell
 have hl2 := blk_load hX2.out.b2 hpsz
 have hcapN := hcap
 clear h1 h2 h3 h4 h5 h6 h7 k1 k2 k3 k4 h h' hsm hsq hb1 hb2 hB1 hB2 hk1 hk2 hpc hqc hT hpsz hqsz hcap hcapN
 go_enter Tryd.func12, Tryd.ntmps12
 go_wp2_with (first
  | (go_at_call 20; refine Calls.ret (hval _ hX2) ?_; rintro v w3 ⟨rfl, hb3⟩; rw [he5.out]; have hX3 := hide (hX2.out.at hb3); have hc23 := hX3.out.b2.cell; have hc33 := hX3.out.b3.cell; have hl3 := blk_load hX3.out.b2 hpszH.out; have hb03 := hide (hb02.out.trans (hb3.mono hb02.out.size)); clear hb3))
 go_ret
 exact ⟨rfl, hb03.out⟩
theorem vp_b {w : World} {cs ds : List Value} {p : ProtD} {q : PropD} (h : ProtIs w w.heap.size cs p) (h' : PropIs w w.heap.size ds q) (hsm : p.Small) (hsq : q.Small) (hT : SpOK w) (he5 : Hid (protE nameOK p = 0)) (hok : Hid (nameOK q.name = false)) :
  Calls Tryd.prog 12 #[.agg cs.toArray, .agg ds.toArray] w (Ret fun v w' => v = .int .i64 (2) ∧ Below w.heap.size w w') := by
 obtain ⟨A1, c1, A2, c2, A3, c3, A4, c4, A5, c5, A6, c6, A7, c7, hpsz, hp0, hp1, hp2, hp3, hp4, hp5, hp6, hp7, hp8, hp9, h1, h2, h3, h4, h5, h6, h7, hcap⟩ := h.cells
 obtain ⟨B1, d1, B2, d2, B3, d3, B4, d4, hqsz, hq0, hq1, hq2, hq3, hq4, hq5, k1, k2, k3, k4⟩ := h'.cells
 have hnmq := hsq.name
 have hm1 := hsq.start
 have hm2 := hsq.bad
 have hm3 := hsq.adj
 have hm4 := hsq.goal
 have hn1 := hsm.states
 have hn5 := hsm.initial
 have hsmH := hide hsm
 have hS5 := hide h5
 have hK1 := hide k1
 have hK2 := hide k2
 have hK3 := hide k3
 have hK4 := hide k4
 obtain ⟨w1, hw1, hb1, hB1, hk1⟩ := box_blk w cs.toArray 27
 obtain ⟨w2, hw2, hb2, hB2, hk2⟩ := box_blk w1 ds.toArray 30
 have hb02 := hide (hb1.trans (hb2.mono hb1.size))
 have hs01 := hb1.size
 have hX2 := hide (show PQX w2 w.heap.size w1.heap.size cs.toArray ds.toArray p q from ⟨h.keep (fun _ hp => hb02.out.cell hp) hb02.out.size, h'.keep (fun _ hp => hb02.out.cell hp) hb02.out.size, hB1.below hb2, hB2, hT.below hb02.out⟩)
 generalize hpc : cs.toArray = pc at *
 generalize hqc : ds.toArray = qc at *
 obtain ⟨ns, hns⟩ : ∃ n, n = p.states.length := ⟨_, rfl⟩
 obtain ⟨ni, hni⟩ : ∃ n, n = p.initial.length := ⟨_, rfl⟩
 obtain ⟨nt, hnt⟩ : ∃ n, n = q.start.length := ⟨_, rfl⟩
 obtain ⟨nb, hnb⟩ : ∃ n, n = q.bad.length := ⟨_, rfl⟩
 obtain ⟨na, hna⟩ : ∃ n, n = q.adj.length := ⟨_, rfl⟩
 obtain ⟨ng, hng⟩ : ∃ n, n = q.goal.length := ⟨_, rfl⟩
 obtain ⟨kq, hkq⟩ : ∃ n, n = q.kind := ⟨_, rfl⟩
 have hLH := hide (show ns = p.states.length ∧ ni = p.initial.length ∧ nt = q.start.length ∧ nb = q.bad.length ∧ na = q.adj.length ∧ ng = q.goal.length ∧ kq = q.kind from ⟨hns, hni, hnt, hnb, hna, hng, hkq⟩)
 rw [← hns] at hp2 hn1
 rw [← hni] at hp7 hn5
 rw [← hnt] at hq2 hm1
 rw [← hnb] at hq3 hm2
 rw [← hna] at hq4 hm3
 rw [← hng] at hq5 hm4
 rw [← hkq] at hq1
 clear hns hni hnt hnb hna hng hkq
 have hpszH := hide hpsz
 have hval : ∀ wx, Hid (PQX wx w.heap.size w1.heap.size pc qc p q) → Calls Tryd.prog 20 #[.agg pc] wx (Ret fun v w' => v = .int .i64 (protE nameOK p) ∧ Below wx.heap.size wx w') := fun wx hx => protValidate_any hx.out.pr hsmH.out hx.out.tab
 have hstart : ∀ wx, Below w.heap.size w wx → Calls Tryd.prog 22 #[.slice B1 nt d1, .int .i64 (ns : Int)] wx (Ret fun r w' => r = .int .i64 (setE q.start (ns : Int)) ∧ Below wx.heap.size wx w') := fun wx hx => by
  rw [hLH.out.2.2.1]
  exact set_any (hK1.out.keep (fun _ hp => hx.cell hp) hx.size)
 have hgoal : ∀ wx, Below w.heap.size w wx → Calls Tryd.prog 22 #[.slice B4 ng d4, .int .i64 (ns : Int)] wx (Ret fun r w' => r = .int .i64 (setE q.goal (ns : Int)) ∧ Below wx.heap.size wx w') := fun wx hx => by
  rw [hLH.out.2.2.2.2.2.1]
  exact set_any (hK4.out.keep (fun _ hp => hx.cell hp) hx.size)
 have hcon : ∀ wx x, Below w.heap.size w wx → Calls Tryd.prog 23 #[.slice A5 ni c5, .int .i64 x] wx fun r w' => r = .returned (.bool (decide (x ∈ p.initial))) ∧ wx = w' := fun wx x hx => by
  rw [hLH.out.2.1]
  exact containsI_any (hS5.out.keep (fun _ hp => hx.cell hp) hx.size)
 have hcounts : ∀ wx, Below w.heap.size w wx → Calls Tryd.prog 26 #[.slice B2 nb d2, .int .i64 (ns : Int)] wx (Ret fun r w' => r = .int .i64 (allE (countE (ns : Int)) q.bad) ∧ Below wx.heap.size wx w') := fun wx hx => by
  rw [hLH.out.2.2.2.1]
  exact counts_any (hK2.out.keep (fun _ hp => hx.cell hp) (fun _ _ h => h.keep (fun _ hp => hx.cell hp) hx.size) hx.size)
 have hadj : ∀ wx, Hid (PQX wx w.heap.size w1.heap.size pc qc p q) → Below w.heap.size w wx → Calls Tryd.prog 27 #[.agg pc, .slice B3 na d3] wx (Ret fun r w' => r = .int .i64 (adjE p.topo (ns : Int) q.adj) ∧ Below wx.heap.size wx w') := fun wx hXx hx => by
  rw [hLH.out.2.2.2.2.1, hLH.out.1]
  exact adjacent_any hXx.out.pr (hK3.out.keep (fun _ hp => hx.cell hp) hx.size)
 have hc22 := hX2.out.b2.cell
 have hc32 := hX2.out.b3.cell
 have hl2 := blk_load hX2.out.b2 hpsz
 have hcapN := hcap
 clear h1 h2 h3 h4 h5 h6 h7 k1 k2 k3 k4 h h' hsm hsq hb1 hb2 hB1 hB2 hk1 hk2 hpc hqc hT hpsz hqsz hcap hcapN
 go_enter Tryd.func12, Tryd.ntmps12
 go_wp2_with (first
  | (go_at_call 20; refine Calls.ret (hval _ hX2) ?_; rintro v w3 ⟨rfl, hb3⟩; rw [he5.out]; have hX3 := hide (hX2.out.at hb3); have hc23 := hX3.out.b2.cell; have hc33 := hX3.out.b3.cell; have hl3 := blk_load hX3.out.b2 hpszH.out; have hb03 := hide (hb02.out.trans (hb3.mono hb02.out.size)); clear hb3)
  | (go_at_call 21; refine Calls.ret (validName_any q.name _ (by omega) hX3.out.tab) ?_; rintro v w4 ⟨rfl, hb4⟩; rw [hok.out]; have hX4 := hide (hX3.out.at hb4); have hc24 := hX4.out.b2.cell; have hc34 := hX4.out.b3.cell; have hl4 := blk_load hX4.out.b2 hpszH.out; have hb04 := hide (hb03.out.trans (hb4.mono hb03.out.size)); clear hb4))
 go_ret
 exact ⟨rfl, hb04.out⟩
theorem vp_c {w : World} {cs ds : List Value} {p : ProtD} {q : PropD} (h : ProtIs w w.heap.size cs p) (h' : PropIs w w.heap.size ds q) (hsm : p.Small) (hsq : q.Small) (hT : SpOK w) (he5 : Hid (protE nameOK p = 0)) (hok : Hid (nameOK q.name = true)) (hk1 : q.kind ≠ 1) (hk2 : q.kind ≠ 2) :
  Calls Tryd.prog 12 #[.agg cs.toArray, .agg ds.toArray] w (Ret fun v w' => v = .int .i64 (1) ∧ Below w.heap.size w w') := by
 obtain ⟨A1, c1, A2, c2, A3, c3, A4, c4, A5, c5, A6, c6, A7, c7, hpsz, hp0, hp1, hp2, hp3, hp4, hp5, hp6, hp7, hp8, hp9, h1, h2, h3, h4, h5, h6, h7, hcap⟩ := h.cells
 obtain ⟨B1, d1, B2, d2, B3, d3, B4, d4, hqsz, hq0, hq1, hq2, hq3, hq4, hq5, k1, k2, k3, k4⟩ := h'.cells
 have hnmq := hsq.name
 have hm1 := hsq.start
 have hm2 := hsq.bad
 have hm3 := hsq.adj
 have hm4 := hsq.goal
 have hn1 := hsm.states
 have hn5 := hsm.initial
 have hsmH := hide hsm
 have hS5 := hide h5
 have hK1 := hide k1
 have hK2 := hide k2
 have hK3 := hide k3
 have hK4 := hide k4
 obtain ⟨w1, hw1, hb1, hB1, hk1⟩ := box_blk w cs.toArray 27
 obtain ⟨w2, hw2, hb2, hB2, hk2⟩ := box_blk w1 ds.toArray 30
 have hb02 := hide (hb1.trans (hb2.mono hb1.size))
 have hs01 := hb1.size
 have hX2 := hide (show PQX w2 w.heap.size w1.heap.size cs.toArray ds.toArray p q from ⟨h.keep (fun _ hp => hb02.out.cell hp) hb02.out.size, h'.keep (fun _ hp => hb02.out.cell hp) hb02.out.size, hB1.below hb2, hB2, hT.below hb02.out⟩)
 generalize hpc : cs.toArray = pc at *
 generalize hqc : ds.toArray = qc at *
 obtain ⟨ns, hns⟩ : ∃ n, n = p.states.length := ⟨_, rfl⟩
 obtain ⟨ni, hni⟩ : ∃ n, n = p.initial.length := ⟨_, rfl⟩
 obtain ⟨nt, hnt⟩ : ∃ n, n = q.start.length := ⟨_, rfl⟩
 obtain ⟨nb, hnb⟩ : ∃ n, n = q.bad.length := ⟨_, rfl⟩
 obtain ⟨na, hna⟩ : ∃ n, n = q.adj.length := ⟨_, rfl⟩
 obtain ⟨ng, hng⟩ : ∃ n, n = q.goal.length := ⟨_, rfl⟩
 obtain ⟨kq, hkq⟩ : ∃ n, n = q.kind := ⟨_, rfl⟩
 have hLH := hide (show ns = p.states.length ∧ ni = p.initial.length ∧ nt = q.start.length ∧ nb = q.bad.length ∧ na = q.adj.length ∧ ng = q.goal.length ∧ kq = q.kind from ⟨hns, hni, hnt, hnb, hna, hng, hkq⟩)
 rw [← hns] at hp2 hn1
 rw [← hni] at hp7 hn5
 rw [← hnt] at hq2 hm1
 rw [← hnb] at hq3 hm2
 rw [← hna] at hq4 hm3
 rw [← hng] at hq5 hm4
 rw [← hkq] at hq1
 clear hns hni hnt hnb hna hng hkq
 have hpszH := hide hpsz
 have hval : ∀ wx, Hid (PQX wx w.heap.size w1.heap.size pc qc p q) → Calls Tryd.prog 20 #[.agg pc] wx (Ret fun v w' => v = .int .i64 (protE nameOK p) ∧ Below wx.heap.size wx w') := fun wx hx => protValidate_any hx.out.pr hsmH.out hx.out.tab
 have hstart : ∀ wx, Below w.heap.size w wx → Calls Tryd.prog 22 #[.slice B1 nt d1, .int .i64 (ns : Int)] wx (Ret fun r w' => r = .int .i64 (setE q.start (ns : Int)) ∧ Below wx.heap.size wx w') := fun wx hx => by
  rw [hLH.out.2.2.1]
  exact set_any (hK1.out.keep (fun _ hp => hx.cell hp) hx.size)
 have hgoal : ∀ wx, Below w.heap.size w wx → Calls Tryd.prog 22 #[.slice B4 ng d4, .int .i64 (ns : Int)] wx (Ret fun r w' => r = .int .i64 (setE q.goal (ns : Int)) ∧ Below wx.heap.size wx w') := fun wx hx => by
  rw [hLH.out.2.2.2.2.2.1]
  exact set_any (hK4.out.keep (fun _ hp => hx.cell hp) hx.size)
 have hcon : ∀ wx x, Below w.heap.size w wx → Calls Tryd.prog 23 #[.slice A5 ni c5, .int .i64 x] wx fun r w' => r = .returned (.bool (decide (x ∈ p.initial))) ∧ wx = w' := fun wx x hx => by
  rw [hLH.out.2.1]
  exact containsI_any (hS5.out.keep (fun _ hp => hx.cell hp) hx.size)
 have hcounts : ∀ wx, Below w.heap.size w wx → Calls Tryd.prog 26 #[.slice B2 nb d2, .int .i64 (ns : Int)] wx (Ret fun r w' => r = .int .i64 (allE (countE (ns : Int)) q.bad) ∧ Below wx.heap.size wx w') := fun wx hx => by
  rw [hLH.out.2.2.2.1]
  exact counts_any (hK2.out.keep (fun _ hp => hx.cell hp) (fun _ _ h => h.keep (fun _ hp => hx.cell hp) hx.size) hx.size)
 have hadj : ∀ wx, Hid (PQX wx w.heap.size w1.heap.size pc qc p q) → Below w.heap.size w wx → Calls Tryd.prog 27 #[.agg pc, .slice B3 na d3] wx (Ret fun r w' => r = .int .i64 (adjE p.topo (ns : Int) q.adj) ∧ Below wx.heap.size wx w') := fun wx hXx hx => by
  rw [hLH.out.2.2.2.2.1, hLH.out.1]
  exact adjacent_any hXx.out.pr (hK3.out.keep (fun _ hp => hx.cell hp) hx.size)
 have hc22 := hX2.out.b2.cell
 have hc32 := hX2.out.b3.cell
 have hl2 := blk_load hX2.out.b2 hpsz
 have hcapN := hcap
 clear h1 h2 h3 h4 h5 h6 h7 k1 k2 k3 k4 h h' hsm hsq hb1 hb2 hB1 hB2 hk1 hk2 hpc hqc hT hpsz hqsz hcap hcapN
 rw [← hLH.out.2.2.2.2.2.2] at hk1 hk2
 have hy1 : (kq == 1) = false := by simp [hk1]
 have hy2 : (kq != 2) = true := by simp [hk2]
 clear hk1 hk2
 go_enter Tryd.func12, Tryd.ntmps12
 go_wp2_with (first
  | (go_at_call 20; refine Calls.ret (hval _ hX2) ?_; rintro v w3 ⟨rfl, hb3⟩; rw [he5.out]; have hX3 := hide (hX2.out.at hb3); have hc23 := hX3.out.b2.cell; have hc33 := hX3.out.b3.cell; have hl3 := blk_load hX3.out.b2 hpszH.out; have hb03 := hide (hb02.out.trans (hb3.mono hb02.out.size)); clear hb3)
  | (go_at_call 21; refine Calls.ret (validName_any q.name _ (by omega) hX3.out.tab) ?_; rintro v w4 ⟨rfl, hb4⟩; rw [hok.out]; have hX4 := hide (hX3.out.at hb4); have hc24 := hX4.out.b2.cell; have hc34 := hX4.out.b3.cell; have hl4 := blk_load hX4.out.b2 hpszH.out; have hb04 := hide (hb03.out.trans (hb4.mono hb03.out.size)); clear hb4))
 go_ret
 exact ⟨rfl, hb04.out⟩
theorem vp_d {w : World} {cs ds : List Value} {p : ProtD} {q : PropD} (h : ProtIs w w.heap.size cs p) (h' : PropIs w w.heap.size ds q) (hsm : p.Small) (hsq : q.Small) (hT : SpOK w) (he5 : Hid (protE nameOK p = 0)) (hok : Hid (nameOK q.name = true)) (hk1 : Hid (q.kind = 1)) (hg : q.goal.length ≠ 0) :
  Calls Tryd.prog 12 #[.agg cs.toArray, .agg ds.toArray] w (Ret fun v w' => v = .int .i64 (1) ∧ Below w.heap.size w w') := by
 obtain ⟨A1, c1, A2, c2, A3, c3, A4, c4, A5, c5, A6, c6, A7, c7, hpsz, hp0, hp1, hp2, hp3, hp4, hp5, hp6, hp7, hp8, hp9, h1, h2, h3, h4, h5, h6, h7, hcap⟩ := h.cells
 obtain ⟨B1, d1, B2, d2, B3, d3, B4, d4, hqsz, hq0, hq1, hq2, hq3, hq4, hq5, k1, k2, k3, k4⟩ := h'.cells
 have hnmq := hsq.name
 have hm1 := hsq.start
 have hm2 := hsq.bad
 have hm3 := hsq.adj
 have hm4 := hsq.goal
 have hn1 := hsm.states
 have hn5 := hsm.initial
 have hsmH := hide hsm
 have hS5 := hide h5
 have hK1 := hide k1
 have hK2 := hide k2
 have hK3 := hide k3
 have hK4 := hide k4
 obtain ⟨w1, hw1, hb1, hB1, hk1⟩ := box_blk w cs.toArray 27
 obtain ⟨w2, hw2, hb2, hB2, hk2⟩ := box_blk w1 ds.toArray 30
 have hb02 := hide (hb1.trans (hb2.mono hb1.size))
 have hs01 := hb1.size
 have hX2 := hide (show PQX w2 w.heap.size w1.heap.size cs.toArray ds.toArray p q from ⟨h.keep (fun _ hp => hb02.out.cell hp) hb02.out.size, h'.keep (fun _ hp => hb02.out.cell hp) hb02.out.size, hB1.below hb2, hB2, hT.below hb02.out⟩)
 generalize hpc : cs.toArray = pc at *
 generalize hqc : ds.toArray = qc at *
 obtain ⟨ns, hns⟩ : ∃ n, n = p.states.length := ⟨_, rfl⟩
 obtain ⟨ni, hni⟩ : ∃ n, n = p.initial.length := ⟨_, rfl⟩
 obtain ⟨nt, hnt⟩ : ∃ n, n = q.start.length := ⟨_, rfl⟩
 obtain ⟨nb, hnb⟩ : ∃ n, n = q.bad.length := ⟨_, rfl⟩
 obtain ⟨na, hna⟩ : ∃ n, n = q.adj.length := ⟨_, rfl⟩
 obtain ⟨ng, hng⟩ : ∃ n, n = q.goal.length := ⟨_, rfl⟩
 obtain ⟨kq, hkq⟩ : ∃ n, n = q.kind := ⟨_, rfl⟩
 have hLH := hide (show ns = p.states.length ∧ ni = p.initial.length ∧ nt = q.start.length ∧ nb = q.bad.length ∧ na = q.adj.length ∧ ng = q.goal.length ∧ kq = q.kind from ⟨hns, hni, hnt, hnb, hna, hng, hkq⟩)
 rw [← hns] at hp2 hn1
 rw [← hni] at hp7 hn5
 rw [← hnt] at hq2 hm1
 rw [← hnb] at hq3 hm2
 rw [← hna] at hq4 hm3
 rw [← hng] at hq5 hm4
 rw [← hkq] at hq1
 clear hns hni hnt hnb hna hng hkq
 have hpszH := hide hpsz
 have hval : ∀ wx, Hid (PQX wx w.heap.size w1.heap.size pc qc p q) → Calls Tryd.prog 20 #[.agg pc] wx (Ret fun v w' => v = .int .i64 (protE nameOK p) ∧ Below wx.heap.size wx w') := fun wx hx => protValidate_any hx.out.pr hsmH.out hx.out.tab
 have hstart : ∀ wx, Below w.heap.size w wx → Calls Tryd.prog 22 #[.slice B1 nt d1, .int .i64 (ns : Int)] wx (Ret fun r w' => r = .int .i64 (setE q.start (ns : Int)) ∧ Below wx.heap.size wx w') := fun wx hx => by
  rw [hLH.out.2.2.1]
  exact set_any (hK1.out.keep (fun _ hp => hx.cell hp) hx.size)
 have hgoal : ∀ wx, Below w.heap.size w wx → Calls Tryd.prog 22 #[.slice B4 ng d4, .int .i64 (ns : Int)] wx (Ret fun r w' => r = .int .i64 (setE q.goal (ns : Int)) ∧ Below wx.heap.size wx w') := fun wx hx => by
  rw [hLH.out.2.2.2.2.2.1]
  exact set_any (hK4.out.keep (fun _ hp => hx.cell hp) hx.size)
 have hcon : ∀ wx x, Below w.heap.size w wx → Calls Tryd.prog 23 #[.slice A5 ni c5, .int .i64 x] wx fun r w' => r = .returned (.bool (decide (x ∈ p.initial))) ∧ wx = w' := fun wx x hx => by
  rw [hLH.out.2.1]
  exact containsI_any (hS5.out.keep (fun _ hp => hx.cell hp) hx.size)
 have hcounts : ∀ wx, Below w.heap.size w wx → Calls Tryd.prog 26 #[.slice B2 nb d2, .int .i64 (ns : Int)] wx (Ret fun r w' => r = .int .i64 (allE (countE (ns : Int)) q.bad) ∧ Below wx.heap.size wx w') := fun wx hx => by
  rw [hLH.out.2.2.2.1]
  exact counts_any (hK2.out.keep (fun _ hp => hx.cell hp) (fun _ _ h => h.keep (fun _ hp => hx.cell hp) hx.size) hx.size)
 have hadj : ∀ wx, Hid (PQX wx w.heap.size w1.heap.size pc qc p q) → Below w.heap.size w wx → Calls Tryd.prog 27 #[.agg pc, .slice B3 na d3] wx (Ret fun r w' => r = .int .i64 (adjE p.topo (ns : Int) q.adj) ∧ Below wx.heap.size wx w') := fun wx hXx hx => by
  rw [hLH.out.2.2.2.2.1, hLH.out.1]
  exact adjacent_any hXx.out.pr (hK3.out.keep (fun _ hp => hx.cell hp) hx.size)
 have hc22 := hX2.out.b2.cell
 have hc32 := hX2.out.b3.cell
 have hl2 := blk_load hX2.out.b2 hpsz
 have hcapN := hcap
 clear h1 h2 h3 h4 h5 h6 h7 k1 k2 k3 k4 h h' hsm hsq hb1 hb2 hB1 hB2 hk1 hk2 hpc hqc hT hpsz hqsz hcap hcapN
 rw [← hLH.out.2.2.2.2.2.1] at hg
 have hg1 : (0 : Int) < (ng : Int) := by omega
 clear hg
 have hy1 : (kq == 1) = true := by rw [hLH.out.2.2.2.2.2.2, hk1.out]; rfl
 go_enter Tryd.func12, Tryd.ntmps12
 go_wp2_with (first
  | (go_at_call 20; refine Calls.ret (hval _ hX2) ?_; rintro v w3 ⟨rfl, hb3⟩; rw [he5.out]; have hX3 := hide (hX2.out.at hb3); have hc23 := hX3.out.b2.cell; have hc33 := hX3.out.b3.cell; have hl3 := blk_load hX3.out.b2 hpszH.out; have hb03 := hide (hb02.out.trans (hb3.mono hb02.out.size)); clear hb3)
  | (go_at_call 21; refine Calls.ret (validName_any q.name _ (by omega) hX3.out.tab) ?_; rintro v w4 ⟨rfl, hb4⟩; rw [hok.out]; have hX4 := hide (hX3.out.at hb4); have hc24 := hX4.out.b2.cell; have hc34 := hX4.out.b3.cell; have hl4 := blk_load hX4.out.b2 hpszH.out; have hb04 := hide (hb03.out.trans (hb4.mono hb03.out.size)); clear hb4))
 go_ret
 exact ⟨rfl, hb04.out⟩
theorem vp_e {w : World} {cs ds : List Value} {p : ProtD} {q : PropD} (h : ProtIs w w.heap.size cs p) (h' : PropIs w w.heap.size ds q) (hsm : p.Small) (hsq : q.Small) (hT : SpOK w) (he5 : Hid (protE nameOK p = 0)) (hok : Hid (nameOK q.name = true)) (hk2 : Hid (q.kind = 2)) (hg : q.bad.length ≠ 0) :
  Calls Tryd.prog 12 #[.agg cs.toArray, .agg ds.toArray] w (Ret fun v w' => v = .int .i64 (1) ∧ Below w.heap.size w w') := by
 obtain ⟨A1, c1, A2, c2, A3, c3, A4, c4, A5, c5, A6, c6, A7, c7, hpsz, hp0, hp1, hp2, hp3, hp4, hp5, hp6, hp7, hp8, hp9, h1, h2, h3, h4, h5, h6, h7, hcap⟩ := h.cells
 obtain ⟨B1, d1, B2, d2, B3, d3, B4, d4, hqsz, hq0, hq1, hq2, hq3, hq4, hq5, k1, k2, k3, k4⟩ := h'.cells
 have hnmq := hsq.name
 have hm1 := hsq.start
 have hm2 := hsq.bad
 have hm3 := hsq.adj
 have hm4 := hsq.goal
 have hn1 := hsm.states
 have hn5 := hsm.initial
 have hsmH := hide hsm
 have hS5 := hide h5
 have hK1 := hide k1
 have hK2 := hide k2
 have hK3 := hide k3
 have hK4 := hide k4
 obtain ⟨w1, hw1, hb1, hB1, hk1⟩ := box_blk w cs.toArray 27
 obtain ⟨w2, hw2, hb2, hB2, hk2⟩ := box_blk w1 ds.toArray 30
 have hb02 := hide (hb1.trans (hb2.mono hb1.size))
 have hs01 := hb1.size
 have hX2 := hide (show PQX w2 w.heap.size w1.heap.size cs.toArray ds.toArray p q from ⟨h.keep (fun _ hp => hb02.out.cell hp) hb02.out.size, h'.keep (fun _ hp => hb02.out.cell hp) hb02.out.size, hB1.below hb2, hB2, hT.below hb02.out⟩)
 generalize hpc : cs.toArray = pc at *
 generalize hqc : ds.toArray = qc at *
 obtain ⟨ns, hns⟩ : ∃ n, n = p.states.length := ⟨_, rfl⟩
 obtain ⟨ni, hni⟩ : ∃ n, n = p.initial.length := ⟨_, rfl⟩
 obtain ⟨nt, hnt⟩ : ∃ n, n = q.start.length := ⟨_, rfl⟩
 obtain ⟨nb, hnb⟩ : ∃ n, n = q.bad.length := ⟨_, rfl⟩
 obtain ⟨na, hna⟩ : ∃ n, n = q.adj.length := ⟨_, rfl⟩
 obtain ⟨ng, hng⟩ : ∃ n, n = q.goal.length := ⟨_, rfl⟩
 obtain ⟨kq, hkq⟩ : ∃ n, n = q.kind := ⟨_, rfl⟩
 have hLH := hide (show ns = p.states.length ∧ ni = p.initial.length ∧ nt = q.start.length ∧ nb = q.bad.length ∧ na = q.adj.length ∧ ng = q.goal.length ∧ kq = q.kind from ⟨hns, hni, hnt, hnb, hna, hng, hkq⟩)
 rw [← hns] at hp2 hn1
 rw [← hni] at hp7 hn5
 rw [← hnt] at hq2 hm1
 rw [← hnb] at hq3 hm2
 rw [← hna] at hq4 hm3
 rw [← hng] at hq5 hm4
 rw [← hkq] at hq1
 clear hns hni hnt hnb hna hng hkq
 have hpszH := hide hpsz
 have hval : ∀ wx, Hid (PQX wx w.heap.size w1.heap.size pc qc p q) → Calls Tryd.prog 20 #[.agg pc] wx (Ret fun v w' => v = .int .i64 (protE nameOK p) ∧ Below wx.heap.size wx w') := fun wx hx => protValidate_any hx.out.pr hsmH.out hx.out.tab
 have hstart : ∀ wx, Below w.heap.size w wx → Calls Tryd.prog 22 #[.slice B1 nt d1, .int .i64 (ns : Int)] wx (Ret fun r w' => r = .int .i64 (setE q.start (ns : Int)) ∧ Below wx.heap.size wx w') := fun wx hx => by
  rw [hLH.out.2.2.1]
  exact set_any (hK1.out.keep (fun _ hp => hx.cell hp) hx.size)
 have hgoal : ∀ wx, Below w.heap.size w wx → Calls Tryd.prog 22 #[.slice B4 ng d4, .int .i64 (ns : Int)] wx (Ret fun r w' => r = .int .i64 (setE q.goal (ns : Int)) ∧ Below wx.heap.size wx w') := fun wx hx => by
  rw [hLH.out.2.2.2.2.2.1]
  exact set_any (hK4.out.keep (fun _ hp => hx.cell hp) hx.size)
 have hcon : ∀ wx x, Below w.heap.size w wx → Calls Tryd.prog 23 #[.slice A5 ni c5, .int .i64 x] wx fun r w' => r = .returned (.bool (decide (x ∈ p.initial))) ∧ wx = w' := fun wx x hx => by
  rw [hLH.out.2.1]
  exact containsI_any (hS5.out.keep (fun _ hp => hx.cell hp) hx.size)
 have hcounts : ∀ wx, Below w.heap.size w wx → Calls Tryd.prog 26 #[.slice B2 nb d2, .int .i64 (ns : Int)] wx (Ret fun r w' => r = .int .i64 (allE (countE (ns : Int)) q.bad) ∧ Below wx.heap.size wx w') := fun wx hx => by
  rw [hLH.out.2.2.2.1]
  exact counts_any (hK2.out.keep (fun _ hp => hx.cell hp) (fun _ _ h => h.keep (fun _ hp => hx.cell hp) hx.size) hx.size)
 have hadj : ∀ wx, Hid (PQX wx w.heap.size w1.heap.size pc qc p q) → Below w.heap.size w wx → Calls Tryd.prog 27 #[.agg pc, .slice B3 na d3] wx (Ret fun r w' => r = .int .i64 (adjE p.topo (ns : Int) q.adj) ∧ Below wx.heap.size wx w') := fun wx hXx hx => by
  rw [hLH.out.2.2.2.2.1, hLH.out.1]
  exact adjacent_any hXx.out.pr (hK3.out.keep (fun _ hp => hx.cell hp) hx.size)
 have hc22 := hX2.out.b2.cell
 have hc32 := hX2.out.b3.cell
 have hl2 := blk_load hX2.out.b2 hpsz
 have hcapN := hcap
 clear h1 h2 h3 h4 h5 h6 h7 k1 k2 k3 k4 h h' hsm hsq hb1 hb2 hB1 hB2 hk1 hk2 hpc hqc hT hpsz hqsz hcap hcapN
 rw [← hLH.out.2.2.2.1] at hg
 have hg1 : (0 : Int) < (nb : Int) := by omega
 clear hg
 have hy1 : (kq == 1) = false := by rw [hLH.out.2.2.2.2.2.2, hk2.out]; rfl
 have hy2 : (kq != 2) = false := by rw [hLH.out.2.2.2.2.2.2, hk2.out]; rfl
 go_enter Tryd.func12, Tryd.ntmps12
 go_wp2_with (first
  | (go_at_call 20; refine Calls.ret (hval _ hX2) ?_; rintro v w3 ⟨rfl, hb3⟩; rw [he5.out]; have hX3 := hide (hX2.out.at hb3); have hc23 := hX3.out.b2.cell; have hc33 := hX3.out.b3.cell; have hl3 := blk_load hX3.out.b2 hpszH.out; have hb03 := hide (hb02.out.trans (hb3.mono hb02.out.size)); clear hb3)
  | (go_at_call 21; refine Calls.ret (validName_any q.name _ (by omega) hX3.out.tab) ?_; rintro v w4 ⟨rfl, hb4⟩; rw [hok.out]; have hX4 := hide (hX3.out.at hb4); have hc24 := hX4.out.b2.cell; have hc34 := hX4.out.b3.cell; have hl4 := blk_load hX4.out.b2 hpszH.out; have hb04 := hide (hb03.out.trans (hb4.mono hb03.out.size)); clear hb4))
 go_ret
 exact ⟨rfl, hb04.out⟩
theorem vp_f {w : World} {cs ds : List Value} {p : ProtD} {q : PropD} (h : ProtIs w w.heap.size cs p) (h' : PropIs w w.heap.size ds q) (hsm : p.Small) (hsq : q.Small) (hT : SpOK w) (he5 : Hid (protE nameOK p = 0)) (hok : Hid (nameOK q.name = true)) (hk2 : Hid (q.kind = 2)) (hg : q.bad.length = 0) (hg2 : q.adj.length ≠ 0) :
  Calls Tryd.prog 12 #[.agg cs.toArray, .agg ds.toArray] w (Ret fun v w' => v = .int .i64 (1) ∧ Below w.heap.size w w') := by
 obtain ⟨A1, c1, A2, c2, A3, c3, A4, c4, A5, c5, A6, c6, A7, c7, hpsz, hp0, hp1, hp2, hp3, hp4, hp5, hp6, hp7, hp8, hp9, h1, h2, h3, h4, h5, h6, h7, hcap⟩ := h.cells
 obtain ⟨B1, d1, B2, d2, B3, d3, B4, d4, hqsz, hq0, hq1, hq2, hq3, hq4, hq5, k1, k2, k3, k4⟩ := h'.cells
 have hnmq := hsq.name
 have hm1 := hsq.start
 have hm2 := hsq.bad
 have hm3 := hsq.adj
 have hm4 := hsq.goal
 have hn1 := hsm.states
 have hn5 := hsm.initial
 have hsmH := hide hsm
 have hS5 := hide h5
 have hK1 := hide k1
 have hK2 := hide k2
 have hK3 := hide k3
 have hK4 := hide k4
 obtain ⟨w1, hw1, hb1, hB1, hk1⟩ := box_blk w cs.toArray 27
 obtain ⟨w2, hw2, hb2, hB2, hk2⟩ := box_blk w1 ds.toArray 30
 have hb02 := hide (hb1.trans (hb2.mono hb1.size))
 have hs01 := hb1.size
 have hX2 := hide (show PQX w2 w.heap.size w1.heap.size cs.toArray ds.toArray p q from ⟨h.keep (fun _ hp => hb02.out.cell hp) hb02.out.size, h'.keep (fun _ hp => hb02.out.cell hp) hb02.out.size, hB1.below hb2, hB2, hT.below hb02.out⟩)
 generalize hpc : cs.toArray = pc at *
 generalize hqc : ds.toArray = qc at *
 obtain ⟨ns, hns⟩ : ∃ n, n = p.states.length := ⟨_, rfl⟩
 obtain ⟨ni, hni⟩ : ∃ n, n = p.initial.length := ⟨_, rfl⟩
 obtain ⟨nt, hnt⟩ : ∃ n, n = q.start.length := ⟨_, rfl⟩
 obtain ⟨nb, hnb⟩ : ∃ n, n = q.bad.length := ⟨_, rfl⟩
 obtain ⟨na, hna⟩ : ∃ n, n = q.adj.length := ⟨_, rfl⟩
 obtain ⟨ng, hng⟩ : ∃ n, n = q.goal.length := ⟨_, rfl⟩
 obtain ⟨kq, hkq⟩ : ∃ n, n = q.kind := ⟨_, rfl⟩
 have hLH := hide (show ns = p.states.length ∧ ni = p.initial.length ∧ nt = q.start.length ∧ nb = q.bad.length ∧ na = q.adj.length ∧ ng = q.goal.length ∧ kq = q.kind from ⟨hns, hni, hnt, hnb, hna, hng, hkq⟩)
 rw [← hns] at hp2 hn1
 rw [← hni] at hp7 hn5
 rw [← hnt] at hq2 hm1
 rw [← hnb] at hq3 hm2
 rw [← hna] at hq4 hm3
 rw [← hng] at hq5 hm4
 rw [← hkq] at hq1
 clear hns hni hnt hnb hna hng hkq
 have hpszH := hide hpsz
 have hval : ∀ wx, Hid (PQX wx w.heap.size w1.heap.size pc qc p q) → Calls Tryd.prog 20 #[.agg pc] wx (Ret fun v w' => v = .int .i64 (protE nameOK p) ∧ Below wx.heap.size wx w') := fun wx hx => protValidate_any hx.out.pr hsmH.out hx.out.tab
 have hstart : ∀ wx, Below w.heap.size w wx → Calls Tryd.prog 22 #[.slice B1 nt d1, .int .i64 (ns : Int)] wx (Ret fun r w' => r = .int .i64 (setE q.start (ns : Int)) ∧ Below wx.heap.size wx w') := fun wx hx => by
  rw [hLH.out.2.2.1]
  exact set_any (hK1.out.keep (fun _ hp => hx.cell hp) hx.size)
 have hgoal : ∀ wx, Below w.heap.size w wx → Calls Tryd.prog 22 #[.slice B4 ng d4, .int .i64 (ns : Int)] wx (Ret fun r w' => r = .int .i64 (setE q.goal (ns : Int)) ∧ Below wx.heap.size wx w') := fun wx hx => by
  rw [hLH.out.2.2.2.2.2.1]
  exact set_any (hK4.out.keep (fun _ hp => hx.cell hp) hx.size)
 have hcon : ∀ wx x, Below w.heap.size w wx → Calls Tryd.prog 23 #[.slice A5 ni c5, .int .i64 x] wx fun r w' => r = .returned (.bool (decide (x ∈ p.initial))) ∧ wx = w' := fun wx x hx => by
  rw [hLH.out.2.1]
  exact containsI_any (hS5.out.keep (fun _ hp => hx.cell hp) hx.size)
 have hcounts : ∀ wx, Below w.heap.size w wx → Calls Tryd.prog 26 #[.slice B2 nb d2, .int .i64 (ns : Int)] wx (Ret fun r w' => r = .int .i64 (allE (countE (ns : Int)) q.bad) ∧ Below wx.heap.size wx w') := fun wx hx => by
  rw [hLH.out.2.2.2.1]
  exact counts_any (hK2.out.keep (fun _ hp => hx.cell hp) (fun _ _ h => h.keep (fun _ hp => hx.cell hp) hx.size) hx.size)
 have hadj : ∀ wx, Hid (PQX wx w.heap.size w1.heap.size pc qc p q) → Below w.heap.size w wx → Calls Tryd.prog 27 #[.agg pc, .slice B3 na d3] wx (Ret fun r w' => r = .int .i64 (adjE p.topo (ns : Int) q.adj) ∧ Below wx.heap.size wx w') := fun wx hXx hx => by
  rw [hLH.out.2.2.2.2.1, hLH.out.1]
  exact adjacent_any hXx.out.pr (hK3.out.keep (fun _ hp => hx.cell hp) hx.size)
 have hc22 := hX2.out.b2.cell
 have hc32 := hX2.out.b3.cell
 have hl2 := blk_load hX2.out.b2 hpsz
 have hcapN := hcap
 clear h1 h2 h3 h4 h5 h6 h7 k1 k2 k3 k4 h h' hsm hsq hb1 hb2 hB1 hB2 hk1 hk2 hpc hqc hT hpsz hqsz hcap hcapN
 rw [← hLH.out.2.2.2.1] at hg
 rw [← hLH.out.2.2.2.2.1] at hg2
 have hg1 : ¬ (0 : Int) < (nb : Int) := by omega
 have hg3 : (0 : Int) < (na : Int) := by omega
 clear hg hg2
 have hy1 : (kq == 1) = false := by rw [hLH.out.2.2.2.2.2.2, hk2.out]; rfl
 have hy2 : (kq != 2) = false := by rw [hLH.out.2.2.2.2.2.2, hk2.out]; rfl
 go_enter Tryd.func12, Tryd.ntmps12
 go_wp2_with (first
  | (go_at_call 20; refine Calls.ret (hval _ hX2) ?_; rintro v w3 ⟨rfl, hb3⟩; rw [he5.out]; have hX3 := hide (hX2.out.at hb3); have hc23 := hX3.out.b2.cell; have hc33 := hX3.out.b3.cell; have hl3 := blk_load hX3.out.b2 hpszH.out; have hb03 := hide (hb02.out.trans (hb3.mono hb02.out.size)); clear hb3)
  | (go_at_call 21; refine Calls.ret (validName_any q.name _ (by omega) hX3.out.tab) ?_; rintro v w4 ⟨rfl, hb4⟩; rw [hok.out]; have hX4 := hide (hX3.out.at hb4); have hc24 := hX4.out.b2.cell; have hc34 := hX4.out.b3.cell; have hl4 := blk_load hX4.out.b2 hpszH.out; have hb04 := hide (hb03.out.trans (hb4.mono hb03.out.size)); clear hb4))
 go_ret
 exact ⟨rfl, hb04.out⟩
end Go.Proofs.YtbjdgepfhhafjaaDoor
