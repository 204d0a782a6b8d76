/-
  Part XV of a proof.
-/
import Derived.Test.YtbjdgepfhhafjaaDoorXA
import Derived.Test.YtbjdgepfhhafjaaDoorXJ
set_option maxHeartbeats 16000000
set_option maxRecDepth 100000
set_option linter.unusedVariables false
set_option linter.unusedSimpArgs false
namespace Go.Proofs.YtbjdgepfhhafjaaDoor
open Go.RowKit
attribute [-go_sem] loadCellsFrom storeCells
theorem vp_g {w : World} {cs ds : List Value} {p : ProtD} {q : PropD} (h : ProtIs w w.heap.size cs p) (h' : PropIs w w.heap.size ds q) (hsm : p.Small) (hsq : q.Small) (hT : SpOK w) (he5 : Hid (protE nameOK p = 0)) (hok : Hid (nameOK q.name = true)) (hk1 : Hid (q.kind = 1)) (hg : q.goal.length = 0) {e6 : Int} (he6 : Hid (setE q.start (p.states.length : Int) = e6)) (hne : (e6 != 0) = true) :
  Calls Tryd.prog 12 #[.agg cs.toArray, .agg ds.toArray] w (Ret fun v w' => v = .int .i64 (e6) ∧ Below w.heap.size w w') := by
 obtain ⟨A1, c1, A2, c2, A3, c3, A4, c4, A5, c5, A6, c6, A7, c7, hpsz, hp0, hp1, hp2, hp3, hp4, hp5, hp6, hp7, hp8, hp9, h1, h2, h3, h4, h5, h6, h7, hcap⟩ := h.cells
 obtain ⟨B1, d1, B2, d2, B3, d3, B4, d4, hqsz, hq0, hq1, hq2, hq3, hq4, hq5, k1, k2, k3, k4⟩ := h'.cells
 have hnmq := hsq.name
 have hm1 := hsq.start
 have hm2 := hsq.bad
 have hm3 := hsq.adj
 have hm4 := hsq.goal
 have hn1 := hsm.states
 have hn5 := hsm.initial
 have hsmH := hide hsm
 have hS5 := hide h5
 have hK1 := hide k1
 have hK2 := hide k2
 have hK3 := hide k3
 have hK4 := hide k4
 obtain ⟨w1, hw1, hb1, hB1, hk1⟩ := box_blk w cs.toArray 27
 obtain ⟨w2, hw2, hb2, hB2, hk2⟩ := box_blk w1 ds.toArray 30
 have hb02 := hide (hb1.trans (hb2.mono hb1.size))
 have hs01 := hb1.size
 have hX2 := hide (show PQX w2 w.heap.size w1.heap.size cs.toArray ds.toArray p q from ⟨h.keep (fun _ hp => hb02.out.cell hp) hb02.out.size, h'.keep (fun _ hp => hb02.out.cell hp) hb02.out.size, hB1.below hb2, hB2, hT.below hb02.out⟩)
 generalize hpc : cs.toArray = pc at *
 generalize hqc : ds.toArray = qc at *
 obtain ⟨ns, hns⟩ : ∃ n, n = p.states.length := ⟨_, rfl⟩
 obtain ⟨ni, hni⟩ : ∃ n, n = p.initial.length := ⟨_, rfl⟩
 obtain ⟨nt, hnt⟩ : ∃ n, n = q.start.length := ⟨_, rfl⟩
 obtain ⟨nb, hnb⟩ : ∃ n, n = q.bad.length := ⟨_, rfl⟩
 obtain ⟨na, hna⟩ : ∃ n, n = q.adj.length := ⟨_, rfl⟩
 obtain ⟨ng, hng⟩ : ∃ n, n = q.goal.length := ⟨_, rfl⟩
 obtain ⟨kq, hkq⟩ : ∃ n, n = q.kind := ⟨_, rfl⟩
 have hLH := hide (show ns = p.states.length ∧ ni = p.initial.length ∧ nt = q.start.length ∧ nb = q.bad.length ∧ na = q.adj.length ∧ ng = q.goal.length ∧ kq = q.kind from ⟨hns, hni, hnt, hnb, hna, hng, hkq⟩)
 rw [← hns] at hp2 hn1
 rw [← hni] at hp7 hn5
 rw [← hnt] at hq2 hm1
 rw [← hnb] at hq3 hm2
 rw [← hna] at hq4 hm3
 rw [← hng] at hq5 hm4
 rw [← hkq] at hq1
 clear hns hni hnt hnb hna hng hkq
 have hpszH := hide hpsz
 have hval : ∀ wx, Hid (PQX wx w.heap.size w1.heap.size pc qc p q) → Calls Tryd.prog 20 #[.agg pc] wx (Ret fun v w' => v = .int .i64 (protE nameOK p) ∧ Below wx.heap.size wx w') := fun wx hx => protValidate_any hx.out.pr hsmH.out hx.out.tab
 have hstart : ∀ wx, Below w.heap.size w wx → Calls Tryd.prog 22 #[.slice B1 nt d1, .int .i64 (ns : Int)] wx (Ret fun r w' => r = .int .i64 (setE q.start (ns : Int)) ∧ Below wx.heap.size wx w') := fun wx hx => by
  rw [hLH.out.2.2.1]
  exact set_any (hK1.out.keep (fun _ hp => hx.cell hp) hx.size)
 have hgoal : ∀ wx, Below w.heap.size w wx → Calls Tryd.prog 22 #[.slice B4 ng d4, .int .i64 (ns : Int)] wx (Ret fun r w' => r = .int .i64 (setE q.goal (ns : Int)) ∧ Below wx.heap.size wx w') := fun wx hx => by
  rw [hLH.out.2.2.2.2.2.1]
  exact set_any (hK4.out.keep (fun _ hp => hx.cell hp) hx.size)
 have hcon : ∀ wx x, Below w.heap.size w wx → Calls Tryd.prog 23 #[.slice A5 ni c5, .int .i64 x] wx fun r w' => r = .returned (.bool (decide (x ∈ p.initial))) ∧ wx = w' := fun wx x hx => by
  rw [hLH.out.2.1]
  exact containsI_any (hS5.out.keep (fun _ hp => hx.cell hp) hx.size)
 have hcounts : ∀ wx, Below w.heap.size w wx → Calls Tryd.prog 26 #[.slice B2 nb d2, .int .i64 (ns : Int)] wx (Ret fun r w' => r = .int .i64 (allE (countE (ns : Int)) q.bad) ∧ Below wx.heap.size wx w') := fun wx hx => by
  rw [hLH.out.2.2.2.1]
  exact counts_any (hK2.out.keep (fun _ hp => hx.cell hp) (fun _ _ h => h.keep (fun _ hp => hx.cell hp) hx.size) hx.size)
 have hadj : ∀ wx, Hid (PQX wx w.heap.size w1.heap.size pc qc p q) → Below w.heap.size w wx → Calls Tryd.prog 27 #[.agg pc, .slice B3 na d3] wx (Ret fun r w' => r = .int .i64 (adjE p.topo (ns : Int) q.adj) ∧ Below wx.heap.size wx w') := fun wx hXx hx => by
  rw [hLH.out.2.2.2.2.1, hLH.out.1]
  exact adjacent_any hXx.out.pr (hK3.out.keep (fun _ hp => hx.cell hp) hx.size)
 have hc22 := hX2.out.b2.cell
 have hc32 := hX2.out.b3.cell
 have hl2 := blk_load hX2.out.b2 hpsz
 have hcapN := hcap
 clear h1 h2 h3 h4 h5 h6 h7 k1 k2 k3 k4 h h' hsm hsq hb1 hb2 hB1 hB2 hk1 hk2 hpc hqc hT hpsz hqsz hcap hcapN
 rw [← hLH.out.1] at he6
 rw [← hLH.out.2.2.2.2.2.1] at hg
 have hg1 : ¬ (0 : Int) < (ng : Int) := by omega
 clear hg
 have hy1 : (kq == 1) = true := by rw [hLH.out.2.2.2.2.2.2, hk1.out]; rfl
 go_enter Tryd.func12, Tryd.ntmps12
 go_wp2_with (first
  | (go_at_call 20; refine Calls.ret (hval _ hX2) ?_; rintro v w3 ⟨rfl, hb3⟩; rw [he5.out]; have hX3 := hide (hX2.out.at hb3); have hc23 := hX3.out.b2.cell; have hc33 := hX3.out.b3.cell; have hl3 := blk_load hX3.out.b2 hpszH.out; have hb03 := hide (hb02.out.trans (hb3.mono hb02.out.size)); clear hb3)
  | (go_at_call 21; refine Calls.ret (validName_any q.name _ (by omega) hX3.out.tab) ?_; rintro v w4 ⟨rfl, hb4⟩; rw [hok.out]; have hX4 := hide (hX3.out.at hb4); have hc24 := hX4.out.b2.cell; have hc34 := hX4.out.b3.cell; have hl4 := blk_load hX4.out.b2 hpszH.out; have hb04 := hide (hb03.out.trans (hb4.mono hb03.out.size)); clear hb4)
  | (go_at_call 22; refine Calls.ret (hstart _ hb04.out) ?_; rintro v w5 ⟨rfl, hb5⟩; rw [he6.out]; have hX5 := hide (hX4.out.at hb5); have hc25 := hX5.out.b2.cell; have hc35 := hX5.out.b3.cell; have hl5 := blk_load hX5.out.b2 hpszH.out; have hb05 := hide (hb04.out.trans (hb5.mono hb04.out.size)); clear hb5))
 go_ret
 exact ⟨rfl, hb05.out⟩
theorem vp_h {w : World} {cs ds : List Value} {p : ProtD} {q : PropD} (h : ProtIs w w.heap.size cs p) (h' : PropIs w w.heap.size ds q) (hsm : p.Small) (hsq : q.Small) (hT : SpOK w) (he5 : Hid (protE nameOK p = 0)) (hok : Hid (nameOK q.name = true)) (hk1 : Hid (q.kind = 1)) (hg : q.goal.length = 0) (he6 : Hid (setE q.start (p.states.length : Int) = 0)) :
  Calls Tryd.prog 12 #[.agg cs.toArray, .agg ds.toArray] w (Ret fun v w' => v = .int .i64 (propE nameOK p q) ∧ Below w.heap.size w w') := by
 obtain ⟨A1, c1, A2, c2, A3, c3, A4, c4, A5, c5, A6, c6, A7, c7, hpsz, hp0, hp1, hp2, hp3, hp4, hp5, hp6, hp7, hp8, hp9, h1, h2, h3, h4, h5, h6, h7, hcap⟩ := h.cells
 obtain ⟨B1, d1, B2, d2, B3, d3, B4, d4, hqsz, hq0, hq1, hq2, hq3, hq4, hq5, k1, k2, k3, k4⟩ := h'.cells
 have hnmq := hsq.name
 have hm1 := hsq.start
 have hm2 := hsq.bad
 have hm3 := hsq.adj
 have hm4 := hsq.goal
 have hn1 := hsm.states
 have hn5 := hsm.initial
 have hsmH := hide hsm
 have hS5 := hide h5
 have hK1 := hide k1
 have hK2 := hide k2
 have hK3 := hide k3
 have hK4 := hide k4
 obtain ⟨w1, hw1, hb1, hB1, hk1⟩ := box_blk w cs.toArray 27
 obtain ⟨w2, hw2, hb2, hB2, hk2⟩ := box_blk w1 ds.toArray 30
 have hb02 := hide (hb1.trans (hb2.mono hb1.size))
 have hs01 := hb1.size
 have hX2 := hide (show PQX w2 w.heap.size w1.heap.size cs.toArray ds.toArray p q from ⟨h.keep (fun _ hp => hb02.out.cell hp) hb02.out.size, h'.keep (fun _ hp => hb02.out.cell hp) hb02.out.size, hB1.below hb2, hB2, hT.below hb02.out⟩)
 generalize hpc : cs.toArray = pc at *
 generalize hqc : ds.toArray = qc at *
 obtain ⟨ns, hns⟩ : ∃ n, n = p.states.length := ⟨_, rfl⟩
 obtain ⟨ni, hni⟩ : ∃ n, n = p.initial.length := ⟨_, rfl⟩
 obtain ⟨nt, hnt⟩ : ∃ n, n = q.start.length := ⟨_, rfl⟩
 obtain ⟨nb, hnb⟩ : ∃ n, n = q.bad.length := ⟨_, rfl⟩
 obtain ⟨na, hna⟩ : ∃ n, n = q.adj.length := ⟨_, rfl⟩
 obtain ⟨ng, hng⟩ : ∃ n, n = q.goal.length := ⟨_, rfl⟩
 obtain ⟨kq, hkq⟩ : ∃ n, n = q.kind := ⟨_, rfl⟩
 have hLH := hide (show ns = p.states.length ∧ ni = p.initial.length ∧ nt = q.start.length ∧ nb = q.bad.length ∧ na = q.adj.length ∧ ng = q.goal.length ∧ kq = q.kind from ⟨hns, hni, hnt, hnb, hna, hng, hkq⟩)
 rw [← hns] at hp2 hn1
 rw [← hni] at hp7 hn5
 rw [← hnt] at hq2 hm1
 rw [← hnb] at hq3 hm2
 rw [← hna] at hq4 hm3
 rw [← hng] at hq5 hm4
 rw [← hkq] at hq1
 clear hns hni hnt hnb hna hng hkq
 have hpszH := hide hpsz
 have hval : ∀ wx, Hid (PQX wx w.heap.size w1.heap.size pc qc p q) → Calls Tryd.prog 20 #[.agg pc] wx (Ret fun v w' => v = .int .i64 (protE nameOK p) ∧ Below wx.heap.size wx w') := fun wx hx => protValidate_any hx.out.pr hsmH.out hx.out.tab
 have hstart : ∀ wx, Below w.heap.size w wx → Calls Tryd.prog 22 #[.slice B1 nt d1, .int .i64 (ns : Int)] wx (Ret fun r w' => r = .int .i64 (setE q.start (ns : Int)) ∧ Below wx.heap.size wx w') := fun wx hx => by
  rw [hLH.out.2.2.1]
  exact set_any (hK1.out.keep (fun _ hp => hx.cell hp) hx.size)
 have hgoal : ∀ wx, Below w.heap.size w wx → Calls Tryd.prog 22 #[.slice B4 ng d4, .int .i64 (ns : Int)] wx (Ret fun r w' => r = .int .i64 (setE q.goal (ns : Int)) ∧ Below wx.heap.size wx w') := fun wx hx => by
  rw [hLH.out.2.2.2.2.2.1]
  exact set_any (hK4.out.keep (fun _ hp => hx.cell hp) hx.size)
 have hcon : ∀ wx x, Below w.heap.size w wx → Calls Tryd.prog 23 #[.slice A5 ni c5, .int .i64 x] wx fun r w' => r = .returned (.bool (decide (x ∈ p.initial))) ∧ wx = w' := fun wx x hx => by
  rw [hLH.out.2.1]
  exact containsI_any (hS5.out.keep (fun _ hp => hx.cell hp) hx.size)
 have hcounts : ∀ wx, Below w.heap.size w wx → Calls Tryd.prog 26 #[.slice B2 nb d2, .int .i64 (ns : Int)] wx (Ret fun r w' => r = .int .i64 (allE (countE (ns : Int)) q.bad) ∧ Below wx.heap.size wx w') := fun wx hx => by
  rw [hLH.out.2.2.2.1]
  exact counts_any (hK2.out.keep (fun _ hp => hx.cell hp) (fun _ _ h => h.keep (fun _ hp => hx.cell hp) hx.size) hx.size)
 have hadj : ∀ wx, Hid (PQX wx w.heap.size w1.heap.size pc qc p q) → Below w.heap.size w wx → Calls Tryd.prog 27 #[.agg pc, .slice B3 na d3] wx (Ret fun r w' => r = .int .i64 (adjE p.topo (ns : Int) q.adj) ∧ Below wx.heap.size wx w') := fun wx hXx hx => by
  rw [hLH.out.2.2.2.2.1, hLH.out.1]
  exact adjacent_any hXx.out.pr (hK3.out.keep (fun _ hp => hx.cell hp) hx.size)
 have hc22 := hX2.out.b2.cell
 have hc32 := hX2.out.b3.cell
 have hl2 := blk_load hX2.out.b2 hpsz
 have hcapN := hcap
 clear h1 h2 h3 h4 h5 h6 h7 k1 k2 k3 k4 h h' hsm hsq hb1 hb2 hB1 hB2 hk1 hk2 hpc hqc hT hpsz hqsz hcap hcapN
 have hR := hide (show propE nameOK p q = orE (whenE (!inAll p q) 5) (tail1 p q) from by
  rw [qe_1 he5.out hok.out hk1.out hg, he6.out]
  rfl)
 rw [← hLH.out.1] at he6
 rw [← hLH.out.2.2.2.2.2.1] at hg
 have hg1 : ¬ (0 : Int) < (ng : Int) := by omega
 clear hg
 have hy1 : (kq == 1) = true := by rw [hLH.out.2.2.2.2.2.2, hk1.out]; rfl
 go_enter Tryd.func12, Tryd.ntmps12
 go_wp2_with (first
  | (go_at_call 20; refine Calls.ret (hval _ hX2) ?_; rintro v w3 ⟨rfl, hb3⟩; rw [he5.out]; have hX3 := hide (hX2.out.at hb3); have hc23 := hX3.out.b2.cell; have hc33 := hX3.out.b3.cell; have hl3 := blk_load hX3.out.b2 hpszH.out; have hb03 := hide (hb02.out.trans (hb3.mono hb02.out.size)); clear hb3)
  | (go_at_call 21; refine Calls.ret (validName_any q.name _ (by omega) hX3.out.tab) ?_; rintro v w4 ⟨rfl, hb4⟩; rw [hok.out]; have hX4 := hide (hX3.out.at hb4); have hc24 := hX4.out.b2.cell; have hc34 := hX4.out.b3.cell; have hl4 := blk_load hX4.out.b2 hpszH.out; have hb04 := hide (hb03.out.trans (hb4.mono hb03.out.size)); clear hb4)
  | (go_at_call 22; refine Calls.ret (hstart _ hb04.out) ?_; rintro v w5 ⟨rfl, hb5⟩; rw [he6.out]; have hX5 := hide (hX4.out.at hb5); have hc25 := hX5.out.b2.cell; have hc35 := hX5.out.b3.cell; have hl5 := blk_load hX5.out.b2 hpszH.out; have hb05 := hide (hb04.out.trans (hb5.mono hb04.out.size)); clear hb5))
 go_loopw [67] (fun ii wr => ∃ (k : Nat), ii = .int .i64 (k : Int) ∧ k ≤ nt ∧ Hid (Below w5.heap.size w5 wr) ∧ Hid ((q.start.take k).all (fun x => decide (x ∈ p.initial)) = true)) (fun ii _ => nt - (intOf ii).toNat)
 case atStart => exact ⟨0, rfl, Nat.zero_le _, Below.refl _ _, by show _ = _; simp⟩
 case round =>
  obtain ⟨k, rfl, hk, hbr, hE⟩ := hrel
  have hX6 := hide (hX5.out.at hbr.out)
  have hc26 := hX6.out.b2.cell
  have hc36 := hX6.out.b3.cell
  have hl6 := blk_load hX6.out.b2 hpszH.out
  have hb06 := hide (hb05.out.trans (hbr.out.mono hb05.out.size))
  by_cases hlt : k < nt
  ·obtain ⟨b, off, x, hA, hbk, hx, hcx⟩ := (hK1.out.keep (w' := wr) (B' := w.heap.size) (fun _ hp => hb06.out.cell hp) (Nat.le_refl _)).at (k := k) (by have := hLH.out.2.2.1; omega)
   have d0 := hcx 0 (by omega)
   simp only [Nat.add_zero, Nat.mul_one, encI] at d0
   have hxH := hide hx
   subst hA
   clear hcx hx
   have hcx := hide (hcon _ x hb06.out)
   cases hv : decide (x ∈ p.initial)
   ·have hst := hide (show inAll p q = false from by
     unfold inAll
     rw [List.all_eq_false]
     exact ⟨x, List.mem_of_getElem? hxH.out, by rw [hv]; decide⟩)
    rw [hv] at hcx
    clear hv
    go_wp2_with (go_at_call 23; refine hcx.out.mono ?_; rintro r w' ⟨rfl, rfl⟩)
    go_ret
    exact ⟨congrArg (Value.int .i64) (hR.out.trans (by rw [hst.out]; rfl)).symm, hb06.out⟩
   ·have hres := hide (all_take_more (p := fun x => decide (x ∈ p.initial)) hxH.out hE.out hv)
    rw [hv] at hcx
    clear hv
    go_wp2_with (go_at_call 23; refine hcx.out.mono ?_; rintro r w' ⟨rfl, rfl⟩)
    exact ⟨⟨k + 1, by go_num, by omega, hbr.out, hres.out⟩, by simp [intOf]; omega⟩
  ·have hall := hide (show inAll p q = true from by
    have h1 := hLH.out.2.2.1
    have h2 := hE.out
    rwa [List.take_of_length_le (by omega)] at h2)
   have hR2 := hide (show propE nameOK p q = tail1 p q from by rw [hR.out, hall.out]; rfl)
   clear hE
   cases hnbq : ((nb : Int) == 0)
   case true =>
    go_wp2_with fail
    have hX6d := hide (hX6.out.at (drewB wr))
    have hc26d := hX6d.out.b2.cell
    have hc36d := hX6d.out.b3.cell
    have hl6d := blk_load hX6d.out.b2 hpszH.out
    have hb06d := hide (hb06.out.trans ((drewB wr).mono hb06.out.size))
    refine Reg.cI [0, 1, 3, 7, 15, 31, 63, 127, 255, 511, 1023, 0, 2048, 6144, 14336, 32767, 0, 65536, 0, 524287, 0, 0, 2097152, 8388607, 16777215, 33554431, 67108863] [0, 1, 2, 3, 4, 5, 6, 7, 8, 9, 11, 12, 13, 14, 16, 17, 18, 20, 21, 22, 10, 15, 19, 23, 24, 25, 26] ?_
    refine Reg.wI [0, 1, 2, 3, 4, 5, 6, 7, 8, 9, 11, 12, 13, 14, 16, 17, 18, 20, 21, 22] [10, 15, 19, 23, 24, 25, 26] rfl fun Qf hQf => ?_
    go_wp2_with fail
    first | refine hQf _ _ ⟨rfl, ?_⟩ | refine ⟨rfl, ?_⟩ | refine hQf _ _ ⟨by simp [Reg.fineT, Reg.intOp, Region.wanted, yielded, Reg.intFine, Reg.isInt, Act.eval], ?_⟩
    try clear hQf
    refine Reg.aI 10 [15, 19, 23, 24, 25, 26] [12, 17, 20, 22] rfl fun Qf hQf => ?_
    simp only [gT, gS, gZ]
    go_wp2_with (go_at_call 25; refine Calls.ret (when_var _ _ _) ?_; rintro r w' ⟨⟨x1, rfl, hx1⟩, rfl⟩)
    first | refine hQf _ _ ⟨Reg.same_below (Below.refl _ _) [12, 17, 20, 22] rfl, ?_⟩ | refine ⟨Reg.same_below (Below.refl _ _) [12, 17, 20, 22] rfl, ?_⟩
    try clear hQf
    refine Reg.aI 15 [19, 23, 24, 25, 26] [17, 20, 22] rfl fun Qf hQf => ?_
    simp only [gT, gS, gZ]
    go_wp2_with (go_at_call 25; refine Calls.ret (when_var _ _ _) ?_; rintro r w' ⟨⟨x2, rfl, hx2⟩, rfl⟩)
    first | refine hQf _ _ ⟨Reg.same_below (Below.refl _ _) [17, 20, 22] rfl, ?_⟩ | refine ⟨Reg.same_below (Below.refl _ _) [17, 20, 22] rfl, ?_⟩
    try clear hQf
    refine Reg.aI 19 [23, 24, 25, 26] [20, 22] rfl fun Qf hQf => ?_
    simp only [gT, gS, gZ]
    go_wp2_with (go_at_call 26; refine Calls.ret (hcounts _ hb06d.out) ?_; rintro v w7 ⟨rfl, hb7⟩)
    first | refine hQf _ _ ⟨Reg.same_below (hb7) [20, 22] rfl, ?_⟩ | refine ⟨Reg.same_below (hb7) [20, 22] rfl, ?_⟩
    try clear hQf
    have hX7 := hide (hX6d.out.at hb7)
    have hc27 := hX7.out.b2.cell
    have hc37 := hX7.out.b3.cell
    have hl7 := blk_load hX7.out.b2 hpszH.out
    have hb07 := hide (hb06d.out.trans (hb7.mono hb06d.out.size))
    clear hb7
    refine Reg.aI 23 [24, 25, 26] [] rfl fun Qf hQf => ?_
    simp only [gT, gS, gZ]
    go_wp2_with (go_at_call 27; refine Calls.ret (hadj _ hX7 hb07.out) ?_; rintro v w8 ⟨rfl, hb8⟩)
    first | refine hQf _ _ ⟨Reg.nm, ?_⟩ | refine ⟨Reg.nm, ?_⟩
    try clear hQf
    have hX8 := hide (hX7.out.at hb8)
    have hc28 := hX8.out.b2.cell
    have hc38 := hX8.out.b3.cell
    have hl8 := blk_load hX8.out.b2 hpszH.out
    have hb08 := hide (hb07.out.trans (hb8.mono hb07.out.size))
    clear hb8
    have hge := hide (show tail1 p q = allE id [x1, x2, allE (countE (ns : Int)) q.bad, adjE p.topo (ns : Int) q.adj] from by
     unfold tail1
     simp only [allE, id_eq, orE_self0]
     have e1 : x1 = whenE (q.bad.isEmpty && q.adj.isEmpty) 1 := by
      rw [hx1.out]
      congr 1
      rw [isEmpty_len q.bad, isEmpty_len q.adj, ← hLH.out.2.2.2.1, ← hLH.out.2.2.2.2.1, ← beq0]
      rw [hnbq]
      simp only [beq0, Bool.true_and]
     have e2 : x2 = whenE (decide (3 < q.bad.length)) 4 := by
      rw [hx2.out]
      congr 1
      rw [← hLH.out.2.2.2.1]
      first
       | rfl
       | (rw [decide_eq_decide]; omega)
     rw [e1, e2, ← hLH.out.1]
    )
    obtain ⟨wz, hwz, hbz, hBz, hkz⟩ := box_blk w8 #[.int .i64 (x1), .int .i64 (x2), .int .i64 (allE (countE (ns : Int)) q.bad), .int .i64 (adjE p.topo (ns : Int) q.adj)] 33
    have hSz := hide (errs_sl (l := [x1, x2, allE (countE (ns : Int)) q.bad, adjE p.topo (ns : Int) q.adj]) hBz (by simp))
    have hb0z := hide (hb08.out.trans (hbz.mono hb08.out.size))
    clear hBz hkz hbz
    refine Reg.wI [24] [25, 26] rfl fun Qf hQf => ?_
    go_wp2_with fail
    first | refine hQf _ _ ⟨rfl, ?_⟩ | refine ⟨rfl, ?_⟩ | refine hQf _ _ ⟨by simp [Reg.fineT, Reg.intOp, Region.wanted, yielded, Reg.intFine, Reg.isInt, Act.eval], ?_⟩
    try clear hQf
    refine Reg.aI 25 [26] [] rfl fun Qf hQf => ?_
    simp only [gT, gS, gZ]
    go_wp2_with (go_at_call 24; refine (first_any (l := [x1, x2, allE (countE (ns : Int)) q.bad, adjE p.topo (ns : Int) q.adj]) hSz.out).mono ?_; rintro e w' ⟨rfl, rfl⟩)
    first | refine hQf _ _ ⟨Reg.nm, ?_⟩ | refine ⟨Reg.nm, ?_⟩
    try clear hQf
    refine Reg.wI [26] [] rfl fun Qf hQf => ?_
    go_wp2_with fail
    first | refine hQf _ _ ⟨rfl, ?_⟩ | refine ⟨rfl, ?_⟩ | refine hQf _ _ ⟨by simp [Reg.fineT, Reg.intOp, Region.wanted, yielded, Reg.intFine, Reg.isInt, Act.eval], ?_⟩
    try clear hQf
    first | refine Reg.restI_end ?_ | skip
    go_wp2_with fail
    go_ret
    exact ⟨congrArg (Value.int .i64) (hR2.out.trans hge.out).symm, hb0z.out⟩
   case false =>
    go_wp2_with fail
    have hX6d := hide (hX6.out.at (drewB wr))
    have hc26d := hX6d.out.b2.cell
    have hc36d := hX6d.out.b3.cell
    have hl6d := blk_load hX6d.out.b2 hpszH.out
    have hb06d := hide (hb06.out.trans ((drewB wr).mono hb06.out.size))
    refine Reg.cI [0, 1, 3, 7, 15, 31, 63, 127, 255, 511, 1023, 0, 2048, 6144, 14336, 32767, 0, 65536, 0, 524287, 0, 0, 2097152, 8388607, 16777215, 33554431, 67108863] [0, 1, 2, 3, 4, 5, 6, 7, 8, 9, 11, 12, 13, 14, 16, 17, 18, 20, 21, 22, 10, 15, 19, 23, 24, 25, 26] ?_
    refine Reg.wI [0, 1, 2, 3, 4, 5, 6, 7, 8, 9, 11, 12, 13, 14, 16, 17, 18, 20, 21, 22] [10, 15, 19, 23, 24, 25, 26] rfl fun Qf hQf => ?_
    go_wp2_with fail
    first | refine hQf _ _ ⟨rfl, ?_⟩ | refine ⟨rfl, ?_⟩ | refine hQf _ _ ⟨by simp [Reg.fineT, Reg.intOp, Region.wanted, yielded, Reg.intFine, Reg.isInt, Act.eval], ?_⟩
    try clear hQf
    refine Reg.aI 10 [15, 19, 23, 24, 25, 26] [12, 17, 20, 22] rfl fun Qf hQf => ?_
    simp only [gT, gS, gZ]
    go_wp2_with (go_at_call 25; refine Calls.ret (when_var _ _ _) ?_; rintro r w' ⟨⟨x1, rfl, hx1⟩, rfl⟩)
    first | refine hQf _ _ ⟨Reg.same_below (Below.refl _ _) [12, 17, 20, 22] rfl, ?_⟩ | refine ⟨Reg.same_below (Below.refl _ _) [12, 17, 20, 22] rfl, ?_⟩
    try clear hQf
    refine Reg.aI 15 [19, 23, 24, 25, 26] [17, 20, 22] rfl fun Qf hQf => ?_
    simp only [gT, gS, gZ]
    go_wp2_with (go_at_call 25; refine Calls.ret (when_var _ _ _) ?_; rintro r w' ⟨⟨x2, rfl, hx2⟩, rfl⟩)
    first | refine hQf _ _ ⟨Reg.same_below (Below.refl _ _) [17, 20, 22] rfl, ?_⟩ | refine ⟨Reg.same_below (Below.refl _ _) [17, 20, 22] rfl, ?_⟩
    try clear hQf
    refine Reg.aI 19 [23, 24, 25, 26] [20, 22] rfl fun Qf hQf => ?_
    simp only [gT, gS, gZ]
    go_wp2_with (go_at_call 26; refine Calls.ret (hcounts _ hb06d.out) ?_; rintro v w7 ⟨rfl, hb7⟩)
    first | refine hQf _ _ ⟨Reg.same_below (hb7) [20, 22] rfl, ?_⟩ | refine ⟨Reg.same_below (hb7) [20, 22] rfl, ?_⟩
    try clear hQf
    have hX7 := hide (hX6d.out.at hb7)
    have hc27 := hX7.out.b2.cell
    have hc37 := hX7.out.b3.cell
    have hl7 := blk_load hX7.out.b2 hpszH.out
    have hb07 := hide (hb06d.out.trans (hb7.mono hb06d.out.size))
    clear hb7
    refine Reg.aI 23 [24, 25, 26] [] rfl fun Qf hQf => ?_
    simp only [gT, gS, gZ]
    go_wp2_with (go_at_call 27; refine Calls.ret (hadj _ hX7 hb07.out) ?_; rintro v w8 ⟨rfl, hb8⟩)
    first | refine hQf _ _ ⟨Reg.nm, ?_⟩ | refine ⟨Reg.nm, ?_⟩
    try clear hQf
    have hX8 := hide (hX7.out.at hb8)
    have hc28 := hX8.out.b2.cell
    have hc38 := hX8.out.b3.cell
    have hl8 := blk_load hX8.out.b2 hpszH.out
    have hb08 := hide (hb07.out.trans (hb8.mono hb07.out.size))
    clear hb8
    have hge := hide (show tail1 p q = allE id [x1, x2, allE (countE (ns : Int)) q.bad, adjE p.topo (ns : Int) q.adj] from by
     unfold tail1
     simp only [allE, id_eq, orE_self0]
     have e1 : x1 = whenE (q.bad.isEmpty && q.adj.isEmpty) 1 := by
      rw [hx1.out]
      congr 1
      rw [isEmpty_len q.bad, isEmpty_len q.adj, ← hLH.out.2.2.2.1, ← hLH.out.2.2.2.2.1, ← beq0]
      rw [hnbq]
      rfl
     have e2 : x2 = whenE (decide (3 < q.bad.length)) 4 := by
      rw [hx2.out]
      congr 1
      rw [← hLH.out.2.2.2.1]
      first
       | rfl
       | (rw [decide_eq_decide]; omega)
     rw [e1, e2, ← hLH.out.1]
    )
    obtain ⟨wz, hwz, hbz, hBz, hkz⟩ := box_blk w8 #[.int .i64 (x1), .int .i64 (x2), .int .i64 (allE (countE (ns : Int)) q.bad), .int .i64 (adjE p.topo (ns : Int) q.adj)] 33
    have hSz := hide (errs_sl (l := [x1, x2, allE (countE (ns : Int)) q.bad, adjE p.topo (ns : Int) q.adj]) hBz (by simp))
    have hb0z := hide (hb08.out.trans (hbz.mono hb08.out.size))
    clear hBz hkz hbz
    refine Reg.wI [24] [25, 26] rfl fun Qf hQf => ?_
    go_wp2_with fail
    first | refine hQf _ _ ⟨rfl, ?_⟩ | refine ⟨rfl, ?_⟩ | refine hQf _ _ ⟨by simp [Reg.fineT, Reg.intOp, Region.wanted, yielded, Reg.intFine, Reg.isInt, Act.eval], ?_⟩
    try clear hQf
    refine Reg.aI 25 [26] [] rfl fun Qf hQf => ?_
    simp only [gT, gS, gZ]
    go_wp2_with (go_at_call 24; refine (first_any (l := [x1, x2, allE (countE (ns : Int)) q.bad, adjE p.topo (ns : Int) q.adj]) hSz.out).mono ?_; rintro e w' ⟨rfl, rfl⟩)
    first | refine hQf _ _ ⟨Reg.nm, ?_⟩ | refine ⟨Reg.nm, ?_⟩
    try clear hQf
    refine Reg.wI [26] [] rfl fun Qf hQf => ?_
    go_wp2_with fail
    first | refine hQf _ _ ⟨rfl, ?_⟩ | refine ⟨rfl, ?_⟩ | refine hQf _ _ ⟨by simp [Reg.fineT, Reg.intOp, Region.wanted, yielded, Reg.intFine, Reg.isInt, Act.eval], ?_⟩
    try clear hQf
    first | refine Reg.restI_end ?_ | skip
    go_wp2_with fail
    go_ret
    exact ⟨congrArg (Value.int .i64) (hR2.out.trans hge.out).symm, hb0z.out⟩
end Go.Proofs.YtbjdgepfhhafjaaDoor
namespace Go.Proofs.YtbjdgepfhhafjaaDoor
open Go.RowKit
attribute [-go_sem] loadCellsFrom storeCells
theorem vp_i {w : World} {cs ds : List Value} {p : ProtD} {q : PropD} (h : ProtIs w w.heap.size cs p) (h' : PropIs w w.heap.size ds q) (hsm : p.Small) (hsq : q.Small) (hT : SpOK w) (he5 : Hid (protE nameOK p = 0)) (hok : Hid (nameOK q.name = true)) (hk2 : Hid (q.kind = 2)) (hg : q.bad.length = 0) (hg2 : q.adj.length = 0) {e6 : Int} (he6 : Hid (setE q.start (p.states.length : Int) = e6)) (hne : (e6 != 0) = true) :
  Calls Tryd.prog 12 #[.agg cs.toArray, .agg ds.toArray] w (Ret fun v w' => v = .int .i64 (e6) ∧ Below w.heap.size w w') := by
 obtain ⟨A1, c1, A2, c2, A3, c3, A4, c4, A5, c5, A6, c6, A7, c7, hpsz, hp0, hp1, hp2, hp3, hp4, hp5, hp6, hp7, hp8, hp9, h1, h2, h3, h4, h5, h6, h7, hcap⟩ := h.cells
 obtain ⟨B1, d1, B2, d2, B3, d3, B4, d4, hqsz, hq0, hq1, hq2, hq3, hq4, hq5, k1, k2, k3, k4⟩ := h'.cells
 have hnmq := hsq.name
 have hm1 := hsq.start
 have hm2 := hsq.bad
 have hm3 := hsq.adj
 have hm4 := hsq.goal
 have hn1 := hsm.states
 have hn5 := hsm.initial
 have hsmH := hide hsm
 have hS5 := hide h5
 have hK1 := hide k1
 have hK2 := hide k2
 have hK3 := hide k3
 have hK4 := hide k4
 obtain ⟨w1, hw1, hb1, hB1, hk1⟩ := box_blk w cs.toArray 27
 obtain ⟨w2, hw2, hb2, hB2, hk2⟩ := box_blk w1 ds.toArray 30
 have hb02 := hide (hb1.trans (hb2.mono hb1.size))
 have hs01 := hb1.size
 have hX2 := hide (show PQX w2 w.heap.size w1.heap.size cs.toArray ds.toArray p q from ⟨h.keep (fun _ hp => hb02.out.cell hp) hb02.out.size, h'.keep (fun _ hp => hb02.out.cell hp) hb02.out.size, hB1.below hb2, hB2, hT.below hb02.out⟩)
 generalize hpc : cs.toArray = pc at *
 generalize hqc : ds.toArray = qc at *
 obtain ⟨ns, hns⟩ : ∃ n, n = p.states.length := ⟨_, rfl⟩
 obtain ⟨ni, hni⟩ : ∃ n, n = p.initial.length := ⟨_, rfl⟩
 obtain ⟨nt, hnt⟩ : ∃ n, n = q.start.length := ⟨_, rfl⟩
 obtain ⟨nb, hnb⟩ : ∃ n, n = q.bad.length := ⟨_, rfl⟩
 obtain ⟨na, hna⟩ : ∃ n, n = q.adj.length := ⟨_, rfl⟩
 obtain ⟨ng, hng⟩ : ∃ n, n = q.goal.length := ⟨_, rfl⟩
 obtain ⟨kq, hkq⟩ : ∃ n, n = q.kind := ⟨_, rfl⟩
 have hLH := hide (show ns = p.states.length ∧ ni = p.initial.length ∧ nt = q.start.length ∧ nb = q.bad.length ∧ na = q.adj.length ∧ ng = q.goal.length ∧ kq = q.kind from ⟨hns, hni, hnt, hnb, hna, hng, hkq⟩)
 rw [← hns] at hp2 hn1
 rw [← hni] at hp7 hn5
 rw [← hnt] at hq2 hm1
 rw [← hnb] at hq3 hm2
 rw [← hna] at hq4 hm3
 rw [← hng] at hq5 hm4
 rw [← hkq] at hq1
 clear hns hni hnt hnb hna hng hkq
 have hpszH := hide hpsz
 have hval : ∀ wx, Hid (PQX wx w.heap.size w1.heap.size pc qc p q) → Calls Tryd.prog 20 #[.agg pc] wx (Ret fun v w' => v = .int .i64 (protE nameOK p) ∧ Below wx.heap.size wx w') := fun wx hx => protValidate_any hx.out.pr hsmH.out hx.out.tab
 have hstart : ∀ wx, Below w.heap.size w wx → Calls Tryd.prog 22 #[.slice B1 nt d1, .int .i64 (ns : Int)] wx (Ret fun r w' => r = .int .i64 (setE q.start (ns : Int)) ∧ Below wx.heap.size wx w') := fun wx hx => by
  rw [hLH.out.2.2.1]
  exact set_any (hK1.out.keep (fun _ hp => hx.cell hp) hx.size)
 have hgoal : ∀ wx, Below w.heap.size w wx → Calls Tryd.prog 22 #[.slice B4 ng d4, .int .i64 (ns : Int)] wx (Ret fun r w' => r = .int .i64 (setE q.goal (ns : Int)) ∧ Below wx.heap.size wx w') := fun wx hx => by
  rw [hLH.out.2.2.2.2.2.1]
  exact set_any (hK4.out.keep (fun _ hp => hx.cell hp) hx.size)
 have hcon : ∀ wx x, Below w.heap.size w wx → Calls Tryd.prog 23 #[.slice A5 ni c5, .int .i64 x] wx fun r w' => r = .returned (.bool (decide (x ∈ p.initial))) ∧ wx = w' := fun wx x hx => by
  rw [hLH.out.2.1]
  exact containsI_any (hS5.out.keep (fun _ hp => hx.cell hp) hx.size)
 have hcounts : ∀ wx, Below w.heap.size w wx → Calls Tryd.prog 26 #[.slice B2 nb d2, .int .i64 (ns : Int)] wx (Ret fun r w' => r = .int .i64 (allE (countE (ns : Int)) q.bad) ∧ Below wx.heap.size wx w') := fun wx hx => by
  rw [hLH.out.2.2.2.1]
  exact counts_any (hK2.out.keep (fun _ hp => hx.cell hp) (fun _ _ h => h.keep (fun _ hp => hx.cell hp) hx.size) hx.size)
 have hadj : ∀ wx, Hid (PQX wx w.heap.size w1.heap.size pc qc p q) → Below w.heap.size w wx → Calls Tryd.prog 27 #[.agg pc, .slice B3 na d3] wx (Ret fun r w' => r = .int .i64 (adjE p.topo (ns : Int) q.adj) ∧ Below wx.heap.size wx w') := fun wx hXx hx => by
  rw [hLH.out.2.2.2.2.1, hLH.out.1]
  exact adjacent_any hXx.out.pr (hK3.out.keep (fun _ hp => hx.cell hp) hx.size)
 have hc22 := hX2.out.b2.cell
 have hc32 := hX2.out.b3.cell
 have hl2 := blk_load hX2.out.b2 hpsz
 have hcapN := hcap
 clear h1 h2 h3 h4 h5 h6 h7 k1 k2 k3 k4 h h' hsm hsq hb1 hb2 hB1 hB2 hk1 hk2 hpc hqc hT hpsz hqsz hcap hcapN
 rw [← hLH.out.1] at he6
 rw [← hLH.out.2.2.2.1] at hg
 rw [← hLH.out.2.2.2.2.1] at hg2
 have hg1 : ¬ (0 : Int) < (nb : Int) := by omega
 have hg3 : ¬ (0 : Int) < (na : Int) := by omega
 clear hg hg2
 have hy1 : (kq == 1) = false := by rw [hLH.out.2.2.2.2.2.2, hk2.out]; rfl
 have hy2 : (kq != 2) = false := by rw [hLH.out.2.2.2.2.2.2, hk2.out]; rfl
 go_enter Tryd.func12, Tryd.ntmps12
 go_wp2_with (first
  | (go_at_call 20; refine Calls.ret (hval _ hX2) ?_; rintro v w3 ⟨rfl, hb3⟩; rw [he5.out]; have hX3 := hide (hX2.out.at hb3); have hc23 := hX3.out.b2.cell; have hc33 := hX3.out.b3.cell; have hl3 := blk_load hX3.out.b2 hpszH.out; have hb03 := hide (hb02.out.trans (hb3.mono hb02.out.size)); clear hb3)
  | (go_at_call 21; refine Calls.ret (validName_any q.name _ (by omega) hX3.out.tab) ?_; rintro v w4 ⟨rfl, hb4⟩; rw [hok.out]; have hX4 := hide (hX3.out.at hb4); have hc24 := hX4.out.b2.cell; have hc34 := hX4.out.b3.cell; have hl4 := blk_load hX4.out.b2 hpszH.out; have hb04 := hide (hb03.out.trans (hb4.mono hb03.out.size)); clear hb4)
  | (go_at_call 22; refine Calls.ret (hstart _ hb04.out) ?_; rintro v w5 ⟨rfl, hb5⟩; rw [he6.out]; have hX5 := hide (hX4.out.at hb5); have hc25 := hX5.out.b2.cell; have hc35 := hX5.out.b3.cell; have hl5 := blk_load hX5.out.b2 hpszH.out; have hb05 := hide (hb04.out.trans (hb5.mono hb04.out.size)); clear hb5))
 go_ret
 exact ⟨rfl, hb05.out⟩
theorem vp_j {w : World} {cs ds : List Value} {p : ProtD} {q : PropD} (h : ProtIs w w.heap.size cs p) (h' : PropIs w w.heap.size ds q) (hsm : p.Small) (hsq : q.Small) (hT : SpOK w) (he5 : Hid (protE nameOK p = 0)) (hok : Hid (nameOK q.name = true)) (hk2 : Hid (q.kind = 2)) (hg : q.bad.length = 0) (hg2 : q.adj.length = 0) (he6 : Hid (setE q.start (p.states.length : Int) = 0)) :
  Calls Tryd.prog 12 #[.agg cs.toArray, .agg ds.toArray] w (Ret fun v w' => v = .int .i64 (propE nameOK p q) ∧ Below w.heap.size w w') := by
 obtain ⟨A1, c1, A2, c2, A3, c3, A4, c4, A5, c5, A6, c6, A7, c7, hpsz, hp0, hp1, hp2, hp3, hp4, hp5, hp6, hp7, hp8, hp9, h1, h2, h3, h4, h5, h6, h7, hcap⟩ := h.cells
 obtain ⟨B1, d1, B2, d2, B3, d3, B4, d4, hqsz, hq0, hq1, hq2, hq3, hq4, hq5, k1, k2, k3, k4⟩ := h'.cells
 have hnmq := hsq.name
 have hm1 := hsq.start
 have hm2 := hsq.bad
 have hm3 := hsq.adj
 have hm4 := hsq.goal
 have hn1 := hsm.states
 have hn5 := hsm.initial
 have hsmH := hide hsm
 have hS5 := hide h5
 have hK1 := hide k1
 have hK2 := hide k2
 have hK3 := hide k3
 have hK4 := hide k4
 obtain ⟨w1, hw1, hb1, hB1, hk1⟩ := box_blk w cs.toArray 27
 obtain ⟨w2, hw2, hb2, hB2, hk2⟩ := box_blk w1 ds.toArray 30
 have hb02 := hide (hb1.trans (hb2.mono hb1.size))
 have hs01 := hb1.size
 have hX2 := hide (show PQX w2 w.heap.size w1.heap.size cs.toArray ds.toArray p q from ⟨h.keep (fun _ hp => hb02.out.cell hp) hb02.out.size, h'.keep (fun _ hp => hb02.out.cell hp) hb02.out.size, hB1.below hb2, hB2, hT.below hb02.out⟩)
 generalize hpc : cs.toArray = pc at *
 generalize hqc : ds.toArray = qc at *
 obtain ⟨ns, hns⟩ : ∃ n, n = p.states.length := ⟨_, rfl⟩
 obtain ⟨ni, hni⟩ : ∃ n, n = p.initial.length := ⟨_, rfl⟩
 obtain ⟨nt, hnt⟩ : ∃ n, n = q.start.length := ⟨_, rfl⟩
 obtain ⟨nb, hnb⟩ : ∃ n, n = q.bad.length := ⟨_, rfl⟩
 obtain ⟨na, hna⟩ : ∃ n, n = q.adj.length := ⟨_, rfl⟩
 obtain ⟨ng, hng⟩ : ∃ n, n = q.goal.length := ⟨_, rfl⟩
 obtain ⟨kq, hkq⟩ : ∃ n, n = q.kind := ⟨_, rfl⟩
 have hLH := hide (show ns = p.states.length ∧ ni = p.initial.length ∧ nt = q.start.length ∧ nb = q.bad.length ∧ na = q.adj.length ∧ ng = q.goal.length ∧ kq = q.kind from ⟨hns, hni, hnt, hnb, hna, hng, hkq⟩)
 rw [← hns] at hp2 hn1
 rw [← hni] at hp7 hn5
 rw [← hnt] at hq2 hm1
 rw [← hnb] at hq3 hm2
 rw [← hna] at hq4 hm3
 rw [← hng] at hq5 hm4
 rw [← hkq] at hq1
 clear hns hni hnt hnb hna hng hkq
 have hpszH := hide hpsz
 have hval : ∀ wx, Hid (PQX wx w.heap.size w1.heap.size pc qc p q) → Calls Tryd.prog 20 #[.agg pc] wx (Ret fun v w' => v = .int .i64 (protE nameOK p) ∧ Below wx.heap.size wx w') := fun wx hx => protValidate_any hx.out.pr hsmH.out hx.out.tab
 have hstart : ∀ wx, Below w.heap.size w wx → Calls Tryd.prog 22 #[.slice B1 nt d1, .int .i64 (ns : Int)] wx (Ret fun r w' => r = .int .i64 (setE q.start (ns : Int)) ∧ Below wx.heap.size wx w') := fun wx hx => by
  rw [hLH.out.2.2.1]
  exact set_any (hK1.out.keep (fun _ hp => hx.cell hp) hx.size)
 have hgoal : ∀ wx, Below w.heap.size w wx → Calls Tryd.prog 22 #[.slice B4 ng d4, .int .i64 (ns : Int)] wx (Ret fun r w' => r = .int .i64 (setE q.goal (ns : Int)) ∧ Below wx.heap.size wx w') := fun wx hx => by
  rw [hLH.out.2.2.2.2.2.1]
  exact set_any (hK4.out.keep (fun _ hp => hx.cell hp) hx.size)
 have hcon : ∀ wx x, Below w.heap.size w wx → Calls Tryd.prog 23 #[.slice A5 ni c5, .int .i64 x] wx fun r w' => r = .returned (.bool (decide (x ∈ p.initial))) ∧ wx = w' := fun wx x hx => by
  rw [hLH.out.2.1]
  exact containsI_any (hS5.out.keep (fun _ hp => hx.cell hp) hx.size)
 have hcounts : ∀ wx, Below w.heap.size w wx → Calls Tryd.prog 26 #[.slice B2 nb d2, .int .i64 (ns : Int)] wx (Ret fun r w' => r = .int .i64 (allE (countE (ns : Int)) q.bad) ∧ Below wx.heap.size wx w') := fun wx hx => by
  rw [hLH.out.2.2.2.1]
  exact counts_any (hK2.out.keep (fun _ hp => hx.cell hp) (fun _ _ h => h.keep (fun _ hp => hx.cell hp) hx.size) hx.size)
 have hadj : ∀ wx, Hid (PQX wx w.heap.size w1.heap.size pc qc p q) → Below w.heap.size w wx → Calls Tryd.prog 27 #[.agg pc, .slice B3 na d3] wx (Ret fun r w' => r = .int .i64 (adjE p.topo (ns : Int) q.adj) ∧ Below wx.heap.size wx w') := fun wx hXx hx => by
  rw [hLH.out.2.2.2.2.1, hLH.out.1]
  exact adjacent_any hXx.out.pr (hK3.out.keep (fun _ hp => hx.cell hp) hx.size)
 have hc22 := hX2.out.b2.cell
 have hc32 := hX2.out.b3.cell
 have hl2 := blk_load hX2.out.b2 hpsz
 have hcapN := hcap
 clear h1 h2 h3 h4 h5 h6 h7 k1 k2 k3 k4 h h' hsm hsq hb1 hb2 hB1 hB2 hk1 hk2 hpc hqc hT hpsz hqsz hcap hcapN
 have hR := hide (show propE nameOK p q = orE (whenE (!inAll p q) 5) (tail2 p q) from by
  rw [qe_2 he5.out hok.out hk2.out hg hg2, he6.out]
  rfl)
 rw [← hLH.out.1] at he6
 rw [← hLH.out.2.2.2.1] at hg
 rw [← hLH.out.2.2.2.2.1] at hg2
 have hg1 : ¬ (0 : Int) < (nb : Int) := by omega
 have hg3 : ¬ (0 : Int) < (na : Int) := by omega
 clear hg hg2
 have hy1 : (kq == 1) = false := by rw [hLH.out.2.2.2.2.2.2, hk2.out]; rfl
 have hy2 : (kq != 2) = false := by rw [hLH.out.2.2.2.2.2.2, hk2.out]; rfl
 go_enter Tryd.func12, Tryd.ntmps12
 go_wp2_with (first
  | (go_at_call 20; refine Calls.ret (hval _ hX2) ?_; rintro v w3 ⟨rfl, hb3⟩; rw [he5.out]; have hX3 := hide (hX2.out.at hb3); have hc23 := hX3.out.b2.cell; have hc33 := hX3.out.b3.cell; have hl3 := blk_load hX3.out.b2 hpszH.out; have hb03 := hide (hb02.out.trans (hb3.mono hb02.out.size)); clear hb3)
  | (go_at_call 21; refine Calls.ret (validName_any q.name _ (by omega) hX3.out.tab) ?_; rintro v w4 ⟨rfl, hb4⟩; rw [hok.out]; have hX4 := hide (hX3.out.at hb4); have hc24 := hX4.out.b2.cell; have hc34 := hX4.out.b3.cell; have hl4 := blk_load hX4.out.b2 hpszH.out; have hb04 := hide (hb03.out.trans (hb4.mono hb03.out.size)); clear hb4)
  | (go_at_call 22; refine Calls.ret (hstart _ hb04.out) ?_; rintro v w5 ⟨rfl, hb5⟩; rw [he6.out]; have hX5 := hide (hX4.out.at hb5); have hc25 := hX5.out.b2.cell; have hc35 := hX5.out.b3.cell; have hl5 := blk_load hX5.out.b2 hpszH.out; have hb05 := hide (hb04.out.trans (hb5.mono hb04.out.size)); clear hb5))
 go_loopw [67] (fun ii wr => ∃ (k : Nat), ii = .int .i64 (k : Int) ∧ k ≤ nt ∧ Hid (Below w5.heap.size w5 wr) ∧ Hid ((q.start.take k).all (fun x => decide (x ∈ p.initial)) = true)) (fun ii _ => nt - (intOf ii).toNat)
 case atStart => exact ⟨0, rfl, Nat.zero_le _, Below.refl _ _, by show _ = _; simp⟩
 case round =>
  obtain ⟨k, rfl, hk, hbr, hE⟩ := hrel
  have hX6 := hide (hX5.out.at hbr.out)
  have hc26 := hX6.out.b2.cell
  have hc36 := hX6.out.b3.cell
  have hl6 := blk_load hX6.out.b2 hpszH.out
  have hb06 := hide (hb05.out.trans (hbr.out.mono hb05.out.size))
  by_cases hlt : k < nt
  ·obtain ⟨b, off, x, hA, hbk, hx, hcx⟩ := (hK1.out.keep (w' := wr) (B' := w.heap.size) (fun _ hp => hb06.out.cell hp) (Nat.le_refl _)).at (k := k) (by have := hLH.out.2.2.1; omega)
   have d0 := hcx 0 (by omega)
   simp only [Nat.add_zero, Nat.mul_one, encI] at d0
   have hxH := hide hx
   subst hA
   clear hcx hx
   have hcx := hide (hcon _ x hb06.out)
   cases hv : decide (x ∈ p.initial)
   ·have hst := hide (show inAll p q = false from by
     unfold inAll
     rw [List.all_eq_false]
     exact ⟨x, List.mem_of_getElem? hxH.out, by rw [hv]; decide⟩)
    rw [hv] at hcx
    clear hv
    go_wp2_with (go_at_call 23; refine hcx.out.mono ?_; rintro r w' ⟨rfl, rfl⟩)
    go_ret
    exact ⟨congrArg (Value.int .i64) (hR.out.trans (by rw [hst.out]; rfl)).symm, hb06.out⟩
   ·have hres := hide (all_take_more (p := fun x => decide (x ∈ p.initial)) hxH.out hE.out hv)
    rw [hv] at hcx
    clear hv
    go_wp2_with (go_at_call 23; refine hcx.out.mono ?_; rintro r w' ⟨rfl, rfl⟩)
    exact ⟨⟨k + 1, by go_num, by omega, hbr.out, hres.out⟩, by simp [intOf]; omega⟩
  ·have hall := hide (show inAll p q = true from by
    have h1 := hLH.out.2.2.1
    have h2 := hE.out
    rwa [List.take_of_length_le (by omega)] at h2)
   have hR2 := hide (show propE nameOK p q = tail2 p q from by rw [hR.out, hall.out]; rfl)
   clear hE
   go_wp2_with fail
   have hX6d := hide (hX6.out.at (drewB wr))
   have hc26d := hX6d.out.b2.cell
   have hc36d := hX6d.out.b3.cell
   have hl6d := blk_load hX6d.out.b2 hpszH.out
   have hb06d := hide (hb06.out.trans ((drewB wr).mono hb06.out.size))
   refine Reg.cI [0, 1, 0, 7, 0, 16, 48, 112, 255, 511, 1023, 2047] [0, 1, 2, 4, 5, 6, 7, 3, 8, 9, 10, 11] ?_
   refine Reg.wI [0, 1, 2, 4, 5, 6, 7] [3, 8, 9, 10, 11] rfl fun Qf hQf => ?_
   go_wp2_with fail
   first | refine hQf _ _ ⟨rfl, ?_⟩ | refine ⟨rfl, ?_⟩ | refine hQf _ _ ⟨by simp [Reg.fineT, Reg.intOp, Region.wanted, yielded, Reg.intFine, Reg.isInt, Act.eval], ?_⟩
   try clear hQf
   refine Reg.aI 3 [8, 9, 10, 11] [5] rfl fun Qf hQf => ?_
   simp only [gT, gS, gZ]
   go_wp2_with (go_at_call 22; refine Calls.ret (hgoal _ hb06d.out) ?_; rintro v w7 ⟨rfl, hb7⟩)
   first | refine hQf _ _ ⟨Reg.same_below (hb7) [5] rfl, ?_⟩ | refine ⟨Reg.same_below (hb7) [5] rfl, ?_⟩
   try clear hQf
   have hX7 := hide (hX6d.out.at hb7)
   have hc27 := hX7.out.b2.cell
   have hc37 := hX7.out.b3.cell
   have hl7 := blk_load hX7.out.b2 hpszH.out
   have hb07 := hide (hb06d.out.trans (hb7.mono hb06d.out.size))
   clear hb7
   refine Reg.aI 8 [9, 10, 11] [] rfl fun Qf hQf => ?_
   simp only [gT, gS, gZ]
   go_wp2_with (go_at_call 25; refine Calls.ret (when_var _ _ _) ?_; rintro r w' ⟨⟨x1, rfl, hx1⟩, rfl⟩)
   first | refine hQf _ _ ⟨Reg.nm, ?_⟩ | refine ⟨Reg.nm, ?_⟩
   try clear hQf
   have hge := hide (show tail2 p q = allE id [setE q.goal (ns : Int), x1] from by
    unfold tail2
    simp only [allE, id_eq, orE_self0]
    rw [hx1.out, isEmpty_len q.goal, ← hLH.out.2.2.2.2.2.1, ← hLH.out.1]
    simp only [beq0]
   )
   obtain ⟨wz, hwz, hbz, hBz, hkz⟩ := box_blk w7 #[.int .i64 (setE q.goal (ns : Int)), .int .i64 (x1)] 33
   have hSz := hide (errs_sl (l := [setE q.goal (ns : Int), x1]) hBz (by simp))
   have hb0z := hide (hb07.out.trans (hbz.mono hb07.out.size))
   clear hBz hkz hbz
   refine Reg.wI [9] [10, 11] rfl fun Qf hQf => ?_
   go_wp2_with fail
   first | refine hQf _ _ ⟨rfl, ?_⟩ | refine ⟨rfl, ?_⟩ | refine hQf _ _ ⟨by simp [Reg.fineT, Reg.intOp, Region.wanted, yielded, Reg.intFine, Reg.isInt, Act.eval], ?_⟩
   try clear hQf
   refine Reg.aI 10 [11] [] rfl fun Qf hQf => ?_
   simp only [gT, gS, gZ]
   go_wp2_with (go_at_call 24; refine (first_any (l := [setE q.goal (ns : Int), x1]) hSz.out).mono ?_; rintro e w' ⟨rfl, rfl⟩)
   first | refine hQf _ _ ⟨Reg.nm, ?_⟩ | refine ⟨Reg.nm, ?_⟩
   try clear hQf
   refine Reg.wI [11] [] rfl fun Qf hQf => ?_
   go_wp2_with fail
   first | refine hQf _ _ ⟨rfl, ?_⟩ | refine ⟨rfl, ?_⟩ | refine hQf _ _ ⟨by simp [Reg.fineT, Reg.intOp, Region.wanted, yielded, Reg.intFine, Reg.isInt, Act.eval], ?_⟩
   try clear hQf
   first | refine Reg.restI_end ?_ | skip
   go_wp2_with fail
   go_ret
   exact ⟨congrArg (Value.int .i64) (hR2.out.trans hge.out).symm, hb0z.out⟩
end Go.Proofs.YtbjdgepfhhafjaaDoor
