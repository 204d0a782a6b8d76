/-
  Part XT of a proof.
-/
import Derived.Test.YtbjdgepfhhafjaaDoorXA
import Derived.Test.YtbjdgepfhhafjaaDoorXR
import Derived.Test.YtbjdgepfhhafjaaDoorXJ
set_option maxHeartbeats 16000000
set_option maxRecDepth 100000
set_option linter.unusedVariables false
set_option linter.unusedSimpArgs false
namespace Go.Proofs.YtbjdgepfhhafjaaDoor
open Go.RowKit
attribute [-go_sem] loadCellsFrom storeCells
theorem rp_1 {w : World} {cs ds : List Value} {p : ProtD} {q : PropD} (h : ProtIs w w.heap.size cs p) (h' : PropIs w w.heap.size ds q) (hsm : p.Small) (hsq : q.Small) (hT : SpOK w) (he5 : Hid (protE nameOK p = 0)) (hok : Hid (nameOK q.name = true)) (hk1 : Hid (q.kind = 1)) :
  Calls Tryd.prog 14 #[.agg cs.toArray, .agg ds.toArray] w (Ret fun v w' => v = .int .i64 (propE nameOK p q) ∧ Below w.heap.size w w') := by
 obtain ⟨A1, c1, A2, c2, A3, c3, A4, c4, A5, c5, A6, c6, A7, c7, hpsz, hp0, hp1, hp2, hp3, hp4, hp5, hp6, hp7, hp8, hp9, h1, h2, h3, h4, h5, h6, h7, hcap⟩ := h.cells
 obtain ⟨B1, d1, B2, d2, B3, d3, B4, d4, hqsz, hq0, hq1, hq2, hq3, hq4, hq5, k1, k2, k3, k4⟩ := h'.cells
 have hnmq := hsq.name
 have hm1 := hsq.start
 have hm2 := hsq.bad
 have hm3 := hsq.adj
 have hm4 := hsq.goal
 have hn1 := hsm.states
 have hn5 := hsm.initial
 have hsmH := hide hsm
 have hS5 := hide h5
 have hK1 := hide k1
 have hK2 := hide k2
 have hK3 := hide k3
 have hK4 := hide k4
 obtain ⟨w1, hw1, hb1, hB1, hk1⟩ := box_blk w cs.toArray 27
 obtain ⟨w2, hw2, hb2, hB2, hk2⟩ := box_blk w1 ds.toArray 30
 have hb02 := hide (hb1.trans (hb2.mono hb1.size))
 have hs01 := hb1.size
 have hX2 := hide (show PQX w2 w.heap.size w1.heap.size cs.toArray ds.toArray p q from ⟨h.keep (fun _ hp => hb02.out.cell hp) hb02.out.size, h'.keep (fun _ hp => hb02.out.cell hp) hb02.out.size, hB1.below hb2, hB2, hT.below hb02.out⟩)
 generalize hpc : cs.toArray = pc at *
 generalize hqc : ds.toArray = qc at *
 obtain ⟨ns, hns⟩ : ∃ n, n = p.states.length := ⟨_, rfl⟩
 obtain ⟨ni, hni⟩ : ∃ n, n = p.initial.length := ⟨_, rfl⟩
 obtain ⟨nt, hnt⟩ : ∃ n, n = q.start.length := ⟨_, rfl⟩
 obtain ⟨nb, hnb⟩ : ∃ n, n = q.bad.length := ⟨_, rfl⟩
 obtain ⟨na, hna⟩ : ∃ n, n = q.adj.length := ⟨_, rfl⟩
 obtain ⟨ng, hng⟩ : ∃ n, n = q.goal.length := ⟨_, rfl⟩
 obtain ⟨kq, hkq⟩ : ∃ n, n = q.kind := ⟨_, rfl⟩
 have hLH := hide (show ns = p.states.length ∧ ni = p.initial.length ∧ nt = q.start.length ∧ nb = q.bad.length ∧ na = q.adj.length ∧ ng = q.goal.length ∧ kq = q.kind from ⟨hns, hni, hnt, hnb, hna, hng, hkq⟩)
 rw [← hns] at hp2 hn1
 rw [← hni] at hp7 hn5
 rw [← hnt] at hq2 hm1
 rw [← hnb] at hq3 hm2
 rw [← hna] at hq4 hm3
 rw [← hng] at hq5 hm4
 rw [← hkq] at hq1
 clear hns hni hnt hnb hna hng hkq
 have hpszH := hide hpsz
 have hval : ∀ wx, Hid (PQX wx w.heap.size w1.heap.size pc qc p q) → Calls Tryd.prog 28 #[.agg pc] wx (Ret fun v w' => v = .int .i64 (protE nameOK p) ∧ Below wx.heap.size wx w') := fun wx hx => refProtValidate_any hx.out.pr hsmH.out hx.out.tab
 have hstart : ∀ wx, Below w.heap.size w wx → Calls Tryd.prog 30 #[.slice B1 nt d1, .int .i64 (ns : Int)] wx (Ret fun r w' => r = .int .i64 (setE q.start (ns : Int)) ∧ Below wx.heap.size wx w') := fun wx hx => by
  rw [hLH.out.2.2.1]
  exact refset_any (by omega) (hK1.out.keep (fun _ hp => hx.cell hp) hx.size)
 have hgoal : ∀ wx, Below w.heap.size w wx → Calls Tryd.prog 30 #[.slice B4 ng d4, .int .i64 (ns : Int)] wx (Ret fun r w' => r = .int .i64 (setE q.goal (ns : Int)) ∧ Below wx.heap.size wx w') := fun wx hx => by
  rw [hLH.out.2.2.2.2.2.1]
  exact refset_any (by omega) (hK4.out.keep (fun _ hp => hx.cell hp) hx.size)
 have hcon : ∀ wx x, Below w.heap.size w wx → Calls Tryd.prog 31 #[.slice A5 ni c5, .int .i64 x] wx fun r w' => r = .returned (.bool (decide (x ∈ p.initial))) ∧ wx = w' := fun wx x hx => by
  rw [hLH.out.2.1]
  exact has_any (hS5.out.keep (fun _ hp => hx.cell hp) hx.size)
 have hc22 := hX2.out.b2.cell
 have hc32 := hX2.out.b3.cell
 have hl2 := blk_load hX2.out.b2 hpsz
 have hcapN := hcap
 clear h1 h2 h3 h4 h5 h6 h7 k1 k2 k3 k4 h h' hsm hsq hb1 hb2 hB1 hB2 hk1 hk2 hpc hqc hT hpsz hqsz hcap hcapN
 have hy1 : (kq != 1) = false := by rw [hLH.out.2.2.2.2.2.2, hk1.out]; rfl
 have hy3 : (kq == 1) = true := by rw [hLH.out.2.2.2.2.2.2, hk1.out]; rfl
 have hy4 : (kq == 2) = false := by rw [hLH.out.2.2.2.2.2.2, hk1.out]; rfl
 go_enter Tryd.func14, Tryd.ntmps14
 go_wp2_with fail
 refine Calls.ret (hval _ hX2) ?_; rintro v w3 ⟨rfl, hb3⟩; rw [he5.out]; have hX3 := hide (hX2.out.at hb3); have hc23 := hX3.out.b2.cell; have hc33 := hX3.out.b3.cell; have hb03 := hide (hb02.out.trans (hb3.mono hb02.out.size)); clear hb3; go_wp2_with fail
 by_cases hgg : (0 : Int) < (ng : Int)
 case pos =>
  refine Calls.ret (refValidName_any q.name _ (by omega)) ?_; rintro v w4 ⟨rfl, hb4⟩; rw [hok.out]; have hX4 := hide (hX3.out.at hb4); have hc24 := hX4.out.b2.cell; have hc34 := hX4.out.b3.cell; have hb04 := hide (hb03.out.trans (hb4.mono hb03.out.size)); clear hb4; go_wp2_with fail
  go_ret
  exact ⟨congrArg (Value.int .i64) (qe_goal he5.out hok.out hk1.out (by have := hLH.out.2.2.2.2.2.1; omega)).symm, hb04.out⟩
 have hV := hide (qe_1 he5.out hok.out hk1.out (by have := hLH.out.2.2.2.2.2.1; omega))
 refine Calls.ret (refValidName_any q.name _ (by omega)) ?_; rintro v w4 ⟨rfl, hb4⟩; rw [hok.out]; have hX4 := hide (hX3.out.at hb4); have hc24 := hX4.out.b2.cell; have hc34 := hX4.out.b3.cell; have hb04 := hide (hb03.out.trans (hb4.mono hb03.out.size)); clear hb4; go_wp2_with fail
 clear hgg hy1 hy3
 obtain ⟨e6, he6⟩ : ∃ e, Hid (setE q.start (ns : Int) = e) := ⟨_, rfl⟩
 by_cases h06 : e6 = 0
 case neg =>
  have Q6 : (e6 != 0) = true := by simp [h06]
  have H6 := hide h06
  clear h06
  refine Calls.ret (hstart _ hb04.out) ?_; rintro v w5 ⟨rfl, hb5⟩; rw [he6.out]; have hX5 := hide (hX4.out.at hb5); have hc25 := hX5.out.b2.cell; have hc35 := hX5.out.b3.cell; have hb05 := hide (hb04.out.trans (hb5.mono hb04.out.size)); clear hb5; go_wp2_with fail
  go_ret
  exact ⟨congrArg (Value.int .i64) (hV.out.trans (by rw [← hLH.out.1, he6.out]; exact orE_ne H6.out)).symm, hb05.out⟩
 have Q6 : (e6 != 0) = false := by simp [h06]
 have H6 := hide h06
 clear h06
 have hR := hide (show propE nameOK p q = orE (whenE (!inAll p q) 5) (tail1 p q) from hV.out.trans (by rw [← hLH.out.1, he6.out, H6.out]; rfl))
 refine Calls.ret (hstart _ hb04.out) ?_; rintro v w5 ⟨rfl, hb5⟩; rw [he6.out]; have hX5 := hide (hX4.out.at hb5); have hc25 := hX5.out.b2.cell; have hc35 := hX5.out.b3.cell; have hb05 := hide (hb04.out.trans (hb5.mono hb04.out.size)); clear hb5; go_wp2_with fail
 clear Q6
 go_loopw [8] (fun ii wr => ∃ (k : Nat), ii = .int .i64 (k : Int) ∧ k ≤ nt ∧ Hid (Below w5.heap.size w5 wr) ∧ Hid ((q.start.take k).all (fun x => decide (x ∈ p.initial)) = true)) (fun ii _ => nt - (intOf ii).toNat)
 case atStart => exact ⟨0, rfl, Nat.zero_le _, Below.refl _ _, by show _ = _; simp⟩
 case round =>
  obtain ⟨k, rfl, hk, hbr, hE⟩ := hrel
  have hX6 := hide (hX5.out.at hbr.out)
  have hc26 := hX6.out.b2.cell
  have hc36 := hX6.out.b3.cell
  have hb06 := hide (hb05.out.trans (hbr.out.mono hb05.out.size))
  by_cases hlt : k < nt
  ·obtain ⟨b, off, x, hA, hbk, hx, hcx⟩ := (hK1.out.keep (w' := wr) (B' := w.heap.size) (fun _ hp => hb06.out.cell hp) (Nat.le_refl _)).at (k := k) (by have := hLH.out.2.2.1; omega)
   have d0 := hcx 0 (by omega)
   simp only [Nat.add_zero, Nat.mul_one, encI] at d0
   have hxH := hide hx
   have hb6d := hide (hbr.out.trans ((drewB wr).mono hbr.out.size))
   have hb06d := hide (hb06.out.trans ((drewB wr).mono hb06.out.size))
   subst hA
   clear hcx hx
   have hcx := hide (hcon _ x hb06d.out)
   cases hv : decide (x ∈ p.initial)
   ·have hst := hide (show inAll p q = false from by
     unfold inAll
     rw [List.all_eq_false]
     exact ⟨x, List.mem_of_getElem? hxH.out, by rw [hv]; decide⟩)
    rw [hv] at hcx
    clear hv
    go_wp2_with fail
    refine Reg.cP [0, 1, 0, 4, 0, 28, 60, 127, 255] ?_
    go_wp2_with (go_at_call 31; refine hcx.out.mono ?_; rintro r w' ⟨rfl, rfl⟩)
    go_ret
    exact ⟨congrArg (Value.int .i64) (hR.out.trans (by rw [hst.out]; rfl)).symm, hb06d.out⟩
   ·have hres := hide (all_take_more (p := fun x => decide (x ∈ p.initial)) hxH.out hE.out hv)
    rw [hv] at hcx
    clear hv
    go_wp2_with fail
    refine Reg.cP [0, 1, 0, 4, 0, 28, 60, 127, 255] ?_
    go_wp2_with (go_at_call 31; refine hcx.out.mono ?_; rintro r w' ⟨rfl, rfl⟩)
    exact ⟨⟨k + 1, by go_num, by omega, hb6d.out, hres.out⟩, by simp [intOf]; omega⟩
  ·have hall := hide (show inAll p q = true from by
    have h1 := hLH.out.2.2.1
    have h2 := hE.out
    rwa [List.take_of_length_le (by omega)] at h2)
   have hR2 := hide (show propE nameOK p q = tail1 p q from by rw [hR.out, hall.out]; rfl)
   clear hE
   by_cases hb0 : nb = 0
   ·have Q1 : ((nb : Int) == 0) = true := by simp [hb0]
    by_cases ha0' : na = 0
    ·have Q2 : ((na : Int) == 0) = true := by simp [ha0']
     have HH := hide (show nb = 0 ∧ na = 0 from ⟨hb0, ha0'⟩)
     clear hb0 ha0'
     go_wp2_with fail
     go_ret
     exact ⟨congrArg (Value.int .i64) (hR2.out.trans (by unfold tail1; rw [isEmpty_len q.bad, isEmpty_len q.adj, ← hLH.out.2.2.2.1, ← hLH.out.2.2.2.2.1, decide_eq_true HH.out.1, decide_eq_true HH.out.2]; rfl)).symm, hb06.out⟩
    ·have Q2 : ((na : Int) == 0) = false := by simp [ha0']
     have HH := hide (show nb = 0 ∧ na ≠ 0 from ⟨hb0, ha0'⟩)
     clear hb0 ha0'
     have hR3 := hide (show propE nameOK p q = orE (whenE (decide (3 < q.bad.length)) 4) (orE (allE (countE (ns : Int)) q.bad) (adjE p.topo (ns : Int) q.adj)) from hR2.out.trans (by
      unfold tail1
      rw [isEmpty_len q.bad, isEmpty_len q.adj, ← hLH.out.2.2.2.1, ← hLH.out.2.2.2.2.1, ← hLH.out.1]
      rw [decide_eq_true HH.out.1, decide_eq_false HH.out.2]
      rfl))
     by_cases h3b : (3 : Int) < (nb : Int)
     case pos =>
      go_wp2_with fail
      go_ret
      exact ⟨congrArg (Value.int .i64) (hR3.out.trans (by rw [decide_eq_true (show 3 < q.bad.length by have := hLH.out.2.2.2.1; omega)]; rfl)).symm, hb06.out⟩
     have hR4 := hide (show propE nameOK p q = orE (allE (countE (ns : Int)) q.bad) (adjE p.topo (ns : Int) q.adj) from hR3.out.trans (by rw [decide_eq_false (show ¬ 3 < q.bad.length by have := hLH.out.2.2.2.1; omega)]; rfl))
     go_wp2_with fail
     obtain ⟨w6x, hw6x⟩ : ∃ x, x = wr := ⟨_, rfl⟩
     subst hw6x
     have hb06x := hb06
     clear h3b
     go_loopw [10] (fun ii wr => ∃ (k : Nat), ii = .int .i64 (k : Int) ∧ k ≤ nb ∧ Hid (Below w6x.heap.size w6x wr) ∧ Hid (allE (countE (ns : Int)) (q.bad.take k) = 0)) (fun ii _ => nb - (intOf ii).toNat)
     case atStart => exact ⟨0, rfl, Nat.zero_le _, Below.refl _ _, by show _ = _; rfl⟩
     case round =>
      obtain ⟨k2, rfl, hk2, hbr2, hE2⟩ := hrel
      have hX7 := hide (hX6.out.at hbr2.out)
      have hc27 := hX7.out.b2.cell
      have hc37 := hX7.out.b3.cell
      have hb07 := hide (hb06.out.trans (hbr2.out.mono hb06.out.size))
      by_cases hlt2 : k2 < nb
      ·obtain ⟨b2, off2, c, cs2, hA2, hbk2, hcc, hsz2, hcs2, hRc⟩ := (hK2.out.keep (w' := w6x) (B' := w.heap.size) (R' := CountIs w6x w.heap.size) (fun _ hp => hb06x.out.cell hp) (fun _ _ h => h.keep (fun _ hp => hb06x.out.cell hp) (Nat.le_refl _)) (Nat.le_refl _)).at (i := k2) (by have := hLH.out.2.2.2.1; omega)
       obtain ⟨C1, g1, rfl, hSc⟩ := hRc
       have d0x := hcs2 0 _ rfl
       have d1x := hcs2 1 _ rfl
       simp only [Nat.add_zero] at d0x
       have hccH := hide hcc
       obtain ⟨nc, hnc⟩ : ∃ n, n = c.states.length := ⟨_, rfl⟩
       have hncH := hide hnc
       rw [← hnc] at d0x
       have d07 := (hbr2.out.cell (p := ⟨b2, off2 + k2 * 2, none⟩) (by show b2 < _; have := hb06x.out.size; omega)).trans d0x
       have d17 := (hbr2.out.cell (p := ⟨b2, off2 + k2 * 2 + 1, none⟩) (by show b2 < _; have := hb06x.out.size; omega)).trans d1x
       have hncb := hSc.1
       rw [← hnc] at hncb
       have hSc0 := hide (hSc.keep (w' := w) (B' := w.heap.size) (fun _ hp => (hb06x.out.cell hp).symm) (Nat.le_refl _))
       have hsetc : ∀ wx, Below w.heap.size w wx → Calls Tryd.prog 30 #[.slice C1 nc g1, .int .i64 (ns : Int)] wx (Ret fun r w' => r = .int .i64 (setE c.states (ns : Int)) ∧ Below wx.heap.size wx w') := fun wx hx => by
        rw [hncH.out]
        exact refset_any (by omega) (hSc0.out.keep (fun _ hp => hx.cell hp) hx.size)
       subst hA2
       clear hcs2 hcc hSc hnc
       have hstop := hide (show countE (ns : Int) c ≠ 0 → propE nameOK p q = countE (ns : Int) c from fun hne => by
        rw [hR4.out, allE_stop (countE (ns : Int)) hccH.out hE2.out hne, orE_ne hne])
       go_wp2_with fail
       obtain ⟨ec, hec⟩ : ∃ e, Hid (setE c.states (ns : Int) = e) := ⟨_, rfl⟩
       by_cases h0c : ec = 0
       case neg =>
        have Qc : (ec != 0) = true := by simp [h0c]
        have hfin := hide (show propE nameOK p q = ec from by
         have h1 : countE (ns : Int) c = ec := by unfold countE; rw [hec.out, orE_ne h0c]
         exact (hstop.out (by rw [h1]; exact h0c)).trans h1)
        clear h0c
        refine Calls.ret (hsetc _ hb07.out) ?_; rintro v w8 ⟨rfl, hb8⟩; rw [hec.out]; have hX8 := hide (hX7.out.at hb8); have hc28 := hX8.out.b2.cell; have hc38 := hX8.out.b3.cell; have hb08 := hide (hb07.out.trans (hb8.mono hb07.out.size)); have hb68 := hide (hbr2.out.trans (hb8.mono hbr2.out.size)); have d08 := (hb68.out.cell (p := ⟨b2, off2 + k2 * 2, none⟩) (by show b2 < _; have := hb06x.out.size; omega)).trans d0x; have d18 := (hb68.out.cell (p := ⟨b2, off2 + k2 * 2 + 1, none⟩) (by show b2 < _; have := hb06x.out.size; omega)).trans d1x; clear hb8; go_wp2_with fail
        go_ret
        exact ⟨congrArg (Value.int .i64) hfin.out.symm, hb08.out⟩
       have Qc : (ec != 0) = false := by simp [h0c]
       have hcE := hide (show countE (ns : Int) c = whenE (decide (nc = 0) || !inC c.least 1 3) 1 from by
        unfold countE
        rw [hec.out, h0c, orE_zero, isEmpty_len, ← hncH.out]
        rfl)
       have Hc0 := hide h0c
       clear h0c
       by_cases hnc0 : nc = 0
       case pos =>
        have Qn : ((nc : Int) == 0) = true := by simp [hnc0]
        have hfin := hide (show propE nameOK p q = 1 from by
         have h1 : countE (ns : Int) c = 1 := by rw [hcE.out, decide_eq_true hnc0]; rfl
         exact (hstop.out (by rw [h1]; decide)).trans h1)
        have Hn := hide hnc0
        clear hnc0
        refine Calls.ret (hsetc _ hb07.out) ?_; rintro v w8 ⟨rfl, hb8⟩; rw [hec.out]; have hX8 := hide (hX7.out.at hb8); have hc28 := hX8.out.b2.cell; have hc38 := hX8.out.b3.cell; have hb08 := hide (hb07.out.trans (hb8.mono hb07.out.size)); have hb68 := hide (hbr2.out.trans (hb8.mono hbr2.out.size)); have d08 := (hb68.out.cell (p := ⟨b2, off2 + k2 * 2, none⟩) (by show b2 < _; have := hb06x.out.size; omega)).trans d0x; have d18 := (hb68.out.cell (p := ⟨b2, off2 + k2 * 2 + 1, none⟩) (by show b2 < _; have := hb06x.out.size; omega)).trans d1x; clear hb8; go_wp2_with fail
        go_ret
        exact ⟨congrArg (Value.int .i64) hfin.out.symm, hb08.out⟩
       have Qn : ((nc : Int) == 0) = false := by simp [hnc0]
       have Hn := hide hnc0
       clear hnc0
       refine Calls.ret (hsetc _ hb07.out) ?_; rintro v w8 ⟨rfl, hb8⟩; rw [hec.out]; have hX8 := hide (hX7.out.at hb8); have hc28 := hX8.out.b2.cell; have hc38 := hX8.out.b3.cell; have hb08 := hide (hb07.out.trans (hb8.mono hb07.out.size)); have hb68 := hide (hbr2.out.trans (hb8.mono hbr2.out.size)); have d08 := (hb68.out.cell (p := ⟨b2, off2 + k2 * 2, none⟩) (by show b2 < _; have := hb06x.out.size; omega)).trans d0x; have d18 := (hb68.out.cell (p := ⟨b2, off2 + k2 * 2 + 1, none⟩) (by show b2 < _; have := hb06x.out.size; omega)).trans d1x; clear hb8; go_wp2_with fail
       cases hle : inC c.least 1 3
       ·have Fle := hide hle
        clear hle
        have hfin := hide (show propE nameOK p q = 1 from by
         have h1 : countE (ns : Int) c = 1 := by rw [hcE.out, decide_eq_false Hn.out, Fle.out]; rfl
         exact (hstop.out (by rw [h1]; decide)).trans h1)
        refine (within2_any _ _ _ _).mono ?_; rintro e w' ⟨rfl, rfl⟩; rw [Fle.out]; go_wp2_with fail
        go_ret
        exact ⟨congrArg (Value.int .i64) hfin.out.symm, hb08.out⟩
       ·have Fle := hide hle
        clear hle
        have hnx := hide (show allE (countE (ns : Int)) (q.bad.take (k2 + 1)) = 0 from by
         rw [allE_take (countE (ns : Int)) hccH.out hE2.out, hcE.out, decide_eq_false Hn.out, Fle.out]
         rfl)
        refine (within2_any _ _ _ _).mono ?_; rintro e w' ⟨rfl, rfl⟩; rw [Fle.out]; go_wp2_with fail
        exact ⟨⟨k2 + 1, by go_num, by omega, hb68.out, hnx.out⟩, by simp [intOf]; omega⟩
      ·have hA := hide (show propE nameOK p q = adjE p.topo (ns : Int) q.adj from hR4.out.trans (by
        have h1 := hE2.out
        rw [List.take_of_length_le (by have := hLH.out.2.2.2.1; omega)] at h1
        rw [h1, orE_zero]))
       clear hE2
       obtain ⟨w7x, hw7x⟩ : ∃ x, x = wr := ⟨_, rfl⟩
       subst hw7x
       by_cases ha0 : na = 0
       case pos =>
        have G1 : ¬ (0 : Int) < (na : Int) := by omega
        have G2 : ((na : Int) != 0) = false := by simp [ha0]
        have hB := hide (show propE nameOK p q = allE (fun x => whenE (!inE x (ns : Int)) 5) q.adj from hA.out.trans (by
         have h1 : q.adj = [] := List.length_eq_zero_iff.1 (by have := hLH.out.2.2.2.2.1; omega)
         rw [h1]
         rfl))
        have Ha0 := hide ha0
        clear ha0
        go_wp2_with fail
        clear G1 G2
        go_loopw [12] (fun ii wr => ∃ (k : Nat), ii = .int .i64 (k : Int) ∧ k ≤ na ∧ w7x = wr ∧ Hid (allE (fun x => whenE (!inE x (ns : Int)) 5) (q.adj.take k) = 0)) (fun ii _ => na - (intOf ii).toNat)
        case atStart => exact ⟨0, rfl, Nat.zero_le _, (by first | rfl | trivial), by show _ = _; rfl⟩
        case round =>
         obtain ⟨k4, rfl, hk4, rfl, hE4⟩ := hrel
         by_cases hlt4 : k4 < na
         ·exfalso
          have := Ha0.out
          omega
         ·have hfin := hide (show propE nameOK p q = 0 from hB.out.trans (by
           have h1 := hE4.out
           rwa [List.take_of_length_le (by have := hLH.out.2.2.2.2.1; omega)] at h1))
          clear hE4
          go_wp2_with fail
          go_ret
          exact ⟨congrArg (Value.int .i64) hfin.out.symm, hb07.out⟩
       have G1 : (0 : Int) < (na : Int) := by omega
       have hne := hide (show q.adj.isEmpty = false from by rw [isEmpty_len]; exact decide_eq_false (by have := hLH.out.2.2.2.2.1; omega))
       by_cases ht1 : p.topo = 1
       case pos =>
        have G3 : (p.topo == 1) = true := by simp [ht1]
        have Ht1 := hide ht1
        clear ht1
        go_wp2_with fail
        go_ret
        exact ⟨congrArg (Value.int .i64) (hA.out.trans (by unfold adjE; rw [hne.out, decide_eq_true Ht1.out]; rfl)).symm, hb07.out⟩
       have G3 : (p.topo == 1) = false := by simp [ht1]
       have Ht1 := hide ht1
       clear ht1
       have G2 : ((na : Int) != 0) = true := by simp [ha0]
       have hlq : q.adj.length = na := hLH.out.2.2.2.2.1.symm
       have hlqH := hide hlq
       clear hlq
       by_cases ha2 : na = 2
       case neg =>
        have G4 : ((na : Int) != 2) = true := by
         have : ((na : Int) == 2) = false := by
          simp
          omega
         simp [bne, this]
        have Ha2 := hide ha2
        clear ha2
        go_wp2_with fail
        go_ret
        exact ⟨congrArg (Value.int .i64) (hA.out.trans (by unfold adjE; rw [hne.out, decide_eq_false Ht1.out, hlqH.out, decide_eq_false Ha2.out]; rfl)).symm, hb07.out⟩
       have G4 : ((na : Int) != 2) = false := by simp [ha2]
       have hB := hide (show propE nameOK p q = allE (fun x => whenE (!inE x (ns : Int)) 5) q.adj from hA.out.trans (by unfold adjE; rw [hne.out, decide_eq_false Ht1.out, hlqH.out, decide_eq_true ha2]; rfl))
       have Ha2 := hide ha2
       clear ha2
       go_wp2_with fail
       clear G1 G2 G3 G4
       go_loopw [12] (fun ii wr => ∃ (k : Nat), ii = .int .i64 (k : Int) ∧ k ≤ na ∧ w7x = wr ∧ Hid (allE (fun x => whenE (!inE x (ns : Int)) 5) (q.adj.take k) = 0)) (fun ii _ => na - (intOf ii).toNat)
       case atStart => exact ⟨0, rfl, Nat.zero_le _, (by first | rfl | trivial), by show _ = _; rfl⟩
       case round =>
        obtain ⟨k4, rfl, hk4, rfl, hE4⟩ := hrel
        by_cases hlt4 : k4 < na
        ·obtain ⟨b4, off4, x, hA4, hbk4, hx4, hcx4⟩ := (hK3.out.keep (w' := w7x) (B' := w.heap.size) (fun _ hp => hb07.out.cell hp) (Nat.le_refl _)).at (k := k4) (by have := hLH.out.2.2.2.2.1; omega)
         have d4 := hcx4 0 (by omega)
         simp only [Nat.add_zero, Nat.mul_one, encI] at d4
         have hx4H := hide hx4
         subst hA4
         clear hcx4 hx4
         go_wp2_with fail
         cases hin : inC x 0 ((ns : Int) - 1)
         ·have Fin := hide hin
          clear hin
          have hst := hide (show allE (fun x => whenE (!inE x (ns : Int)) 5) q.adj = 5 from by
           have h1 : whenE (!inE x (ns : Int)) 5 = 5 := by rw [inE_inC, Fin.out]; rfl
           rw [allE_stop (fun x => whenE (!inE x (ns : Int)) 5) hx4H.out hE4.out (by rw [h1]; decide), h1])
          refine (within2_any _ _ _ _).mono ?_; rintro e w' ⟨rfl, rfl⟩; rw [Fin.out]; go_wp2_with fail
          go_ret
          exact ⟨congrArg (Value.int .i64) (hB.out.trans hst.out).symm, hb07.out⟩
         ·have Fin := hide hin
          clear hin
          have hnx := hide (show allE (fun x => whenE (!inE x (ns : Int)) 5) (q.adj.take (k4 + 1)) = 0 from by
           rw [allE_take (fun x => whenE (!inE x (ns : Int)) 5) hx4H.out hE4.out, inE_inC, Fin.out]
           rfl)
          refine (within2_any _ _ _ _).mono ?_; rintro e w' ⟨rfl, rfl⟩; rw [Fin.out]; go_wp2_with fail
          exact ⟨⟨k4 + 1, by go_num, by omega, (by first | rfl | trivial), hnx.out⟩, by simp [intOf]; omega⟩
        ·have hfin := hide (show propE nameOK p q = 0 from hB.out.trans (by
          have h1 := hE4.out
          rwa [List.take_of_length_le (by have := hLH.out.2.2.2.2.1; omega)] at h1))
         clear hE4
         go_wp2_with fail
         go_ret
         exact ⟨congrArg (Value.int .i64) hfin.out.symm, hb07.out⟩
   ·have Q1 : ((nb : Int) == 0) = false := by simp [hb0]
    have HH := hide hb0
    clear hb0
    have hR3 := hide (show propE nameOK p q = orE (whenE (decide (3 < q.bad.length)) 4) (orE (allE (countE (ns : Int)) q.bad) (adjE p.topo (ns : Int) q.adj)) from hR2.out.trans (by
     unfold tail1
     rw [isEmpty_len q.bad, isEmpty_len q.adj, ← hLH.out.2.2.2.1, ← hLH.out.2.2.2.2.1, ← hLH.out.1]
     rw [decide_eq_false HH.out]
     rfl))
    by_cases h3b : (3 : Int) < (nb : Int)
    case pos =>
     go_wp2_with fail
     go_ret
     exact ⟨congrArg (Value.int .i64) (hR3.out.trans (by rw [decide_eq_true (show 3 < q.bad.length by have := hLH.out.2.2.2.1; omega)]; rfl)).symm, hb06.out⟩
    have hR4 := hide (show propE nameOK p q = orE (allE (countE (ns : Int)) q.bad) (adjE p.topo (ns : Int) q.adj) from hR3.out.trans (by rw [decide_eq_false (show ¬ 3 < q.bad.length by have := hLH.out.2.2.2.1; omega)]; rfl))
    go_wp2_with fail
    obtain ⟨w6x, hw6x⟩ : ∃ x, x = wr := ⟨_, rfl⟩
    subst hw6x
    have hb06x := hb06
    clear h3b
    go_loopw [10] (fun ii wr => ∃ (k : Nat), ii = .int .i64 (k : Int) ∧ k ≤ nb ∧ Hid (Below w6x.heap.size w6x wr) ∧ Hid (allE (countE (ns : Int)) (q.bad.take k) = 0)) (fun ii _ => nb - (intOf ii).toNat)
    case atStart => exact ⟨0, rfl, Nat.zero_le _, Below.refl _ _, by show _ = _; rfl⟩
    case round =>
     obtain ⟨k2, rfl, hk2, hbr2, hE2⟩ := hrel
     have hX7 := hide (hX6.out.at hbr2.out)
     have hc27 := hX7.out.b2.cell
     have hc37 := hX7.out.b3.cell
     have hb07 := hide (hb06.out.trans (hbr2.out.mono hb06.out.size))
     by_cases hlt2 : k2 < nb
     ·obtain ⟨b2, off2, c, cs2, hA2, hbk2, hcc, hsz2, hcs2, hRc⟩ := (hK2.out.keep (w' := w6x) (B' := w.heap.size) (R' := CountIs w6x w.heap.size) (fun _ hp => hb06x.out.cell hp) (fun _ _ h => h.keep (fun _ hp => hb06x.out.cell hp) (Nat.le_refl _)) (Nat.le_refl _)).at (i := k2) (by have := hLH.out.2.2.2.1; omega)
      obtain ⟨C1, g1, rfl, hSc⟩ := hRc
      have d0x := hcs2 0 _ rfl
      have d1x := hcs2 1 _ rfl
      simp only [Nat.add_zero] at d0x
      have hccH := hide hcc
      obtain ⟨nc, hnc⟩ : ∃ n, n = c.states.length := ⟨_, rfl⟩
      have hncH := hide hnc
      rw [← hnc] at d0x
      have d07 := (hbr2.out.cell (p := ⟨b2, off2 + k2 * 2, none⟩) (by show b2 < _; have := hb06x.out.size; omega)).trans d0x
      have d17 := (hbr2.out.cell (p := ⟨b2, off2 + k2 * 2 + 1, none⟩) (by show b2 < _; have := hb06x.out.size; omega)).trans d1x
      have hncb := hSc.1
      rw [← hnc] at hncb
      have hSc0 := hide (hSc.keep (w' := w) (B' := w.heap.size) (fun _ hp => (hb06x.out.cell hp).symm) (Nat.le_refl _))
      have hsetc : ∀ wx, Below w.heap.size w wx → Calls Tryd.prog 30 #[.slice C1 nc g1, .int .i64 (ns : Int)] wx (Ret fun r w' => r = .int .i64 (setE c.states (ns : Int)) ∧ Below wx.heap.size wx w') := fun wx hx => by
       rw [hncH.out]
       exact refset_any (by omega) (hSc0.out.keep (fun _ hp => hx.cell hp) hx.size)
      subst hA2
      clear hcs2 hcc hSc hnc
      have hstop := hide (show countE (ns : Int) c ≠ 0 → propE nameOK p q = countE (ns : Int) c from fun hne => by
       rw [hR4.out, allE_stop (countE (ns : Int)) hccH.out hE2.out hne, orE_ne hne])
      go_wp2_with fail
      obtain ⟨ec, hec⟩ : ∃ e, Hid (setE c.states (ns : Int) = e) := ⟨_, rfl⟩
      by_cases h0c : ec = 0
      case neg =>
       have Qc : (ec != 0) = true := by simp [h0c]
       have hfin := hide (show propE nameOK p q = ec from by
        have h1 : countE (ns : Int) c = ec := by unfold countE; rw [hec.out, orE_ne h0c]
        exact (hstop.out (by rw [h1]; exact h0c)).trans h1)
       clear h0c
       refine Calls.ret (hsetc _ hb07.out) ?_; rintro v w8 ⟨rfl, hb8⟩; rw [hec.out]; have hX8 := hide (hX7.out.at hb8); have hc28 := hX8.out.b2.cell; have hc38 := hX8.out.b3.cell; have hb08 := hide (hb07.out.trans (hb8.mono hb07.out.size)); have hb68 := hide (hbr2.out.trans (hb8.mono hbr2.out.size)); have d08 := (hb68.out.cell (p := ⟨b2, off2 + k2 * 2, none⟩) (by show b2 < _; have := hb06x.out.size; omega)).trans d0x; have d18 := (hb68.out.cell (p := ⟨b2, off2 + k2 * 2 + 1, none⟩) (by show b2 < _; have := hb06x.out.size; omega)).trans d1x; clear hb8; go_wp2_with fail
       go_ret
       exact ⟨congrArg (Value.int .i64) hfin.out.symm, hb08.out⟩
      have Qc : (ec != 0) = false := by simp [h0c]
      have hcE := hide (show countE (ns : Int) c = whenE (decide (nc = 0) || !inC c.least 1 3) 1 from by
       unfold countE
       rw [hec.out, h0c, orE_zero, isEmpty_len, ← hncH.out]
       rfl)
      have Hc0 := hide h0c
      clear h0c
      by_cases hnc0 : nc = 0
      case pos =>
       have Qn : ((nc : Int) == 0) = true := by simp [hnc0]
       have hfin := hide (show propE nameOK p q = 1 from by
        have h1 : countE (ns : Int) c = 1 := by rw [hcE.out, decide_eq_true hnc0]; rfl
        exact (hstop.out (by rw [h1]; decide)).trans h1)
       have Hn := hide hnc0
       clear hnc0
       refine Calls.ret (hsetc _ hb07.out) ?_; rintro v w8 ⟨rfl, hb8⟩; rw [hec.out]; have hX8 := hide (hX7.out.at hb8); have hc28 := hX8.out.b2.cell; have hc38 := hX8.out.b3.cell; have hb08 := hide (hb07.out.trans (hb8.mono hb07.out.size)); have hb68 := hide (hbr2.out.trans (hb8.mono hbr2.out.size)); have d08 := (hb68.out.cell (p := ⟨b2, off2 + k2 * 2, none⟩) (by show b2 < _; have := hb06x.out.size; omega)).trans d0x; have d18 := (hb68.out.cell (p := ⟨b2, off2 + k2 * 2 + 1, none⟩) (by show b2 < _; have := hb06x.out.size; omega)).trans d1x; clear hb8; go_wp2_with fail
       go_ret
       exact ⟨congrArg (Value.int .i64) hfin.out.symm, hb08.out⟩
      have Qn : ((nc : Int) == 0) = false := by simp [hnc0]
      have Hn := hide hnc0
      clear hnc0
      refine Calls.ret (hsetc _ hb07.out) ?_; rintro v w8 ⟨rfl, hb8⟩; rw [hec.out]; have hX8 := hide (hX7.out.at hb8); have hc28 := hX8.out.b2.cell; have hc38 := hX8.out.b3.cell; have hb08 := hide (hb07.out.trans (hb8.mono hb07.out.size)); have hb68 := hide (hbr2.out.trans (hb8.mono hbr2.out.size)); have d08 := (hb68.out.cell (p := ⟨b2, off2 + k2 * 2, none⟩) (by show b2 < _; have := hb06x.out.size; omega)).trans d0x; have d18 := (hb68.out.cell (p := ⟨b2, off2 + k2 * 2 + 1, none⟩) (by show b2 < _; have := hb06x.out.size; omega)).trans d1x; clear hb8; go_wp2_with fail
      cases hle : inC c.least 1 3
      ·have Fle := hide hle
       clear hle
       have hfin := hide (show propE nameOK p q = 1 from by
        have h1 : countE (ns : Int) c = 1 := by rw [hcE.out, decide_eq_false Hn.out, Fle.out]; rfl
        exact (hstop.out (by rw [h1]; decide)).trans h1)
       refine (within2_any _ _ _ _).mono ?_; rintro e w' ⟨rfl, rfl⟩; rw [Fle.out]; go_wp2_with fail
       go_ret
       exact ⟨congrArg (Value.int .i64) hfin.out.symm, hb08.out⟩
      ·have Fle := hide hle
       clear hle
       have hnx := hide (show allE (countE (ns : Int)) (q.bad.take (k2 + 1)) = 0 from by
        rw [allE_take (countE (ns : Int)) hccH.out hE2.out, hcE.out, decide_eq_false Hn.out, Fle.out]
        rfl)
       refine (within2_any _ _ _ _).mono ?_; rintro e w' ⟨rfl, rfl⟩; rw [Fle.out]; go_wp2_with fail
       exact ⟨⟨k2 + 1, by go_num, by omega, hb68.out, hnx.out⟩, by simp [intOf]; omega⟩
     ·have hA := hide (show propE nameOK p q = adjE p.topo (ns : Int) q.adj from hR4.out.trans (by
       have h1 := hE2.out
       rw [List.take_of_length_le (by have := hLH.out.2.2.2.1; omega)] at h1
       rw [h1, orE_zero]))
      clear hE2
      obtain ⟨w7x, hw7x⟩ : ∃ x, x = wr := ⟨_, rfl⟩
      subst hw7x
      by_cases ha0 : na = 0
      case pos =>
       have G1 : ¬ (0 : Int) < (na : Int) := by omega
       have G2 : ((na : Int) != 0) = false := by simp [ha0]
       have hB := hide (show propE nameOK p q = allE (fun x => whenE (!inE x (ns : Int)) 5) q.adj from hA.out.trans (by
        have h1 : q.adj = [] := List.length_eq_zero_iff.1 (by have := hLH.out.2.2.2.2.1; omega)
        rw [h1]
        rfl))
       have Ha0 := hide ha0
       clear ha0
       go_wp2_with fail
       clear G1 G2
       go_loopw [12] (fun ii wr => ∃ (k : Nat), ii = .int .i64 (k : Int) ∧ k ≤ na ∧ w7x = wr ∧ Hid (allE (fun x => whenE (!inE x (ns : Int)) 5) (q.adj.take k) = 0)) (fun ii _ => na - (intOf ii).toNat)
       case atStart => exact ⟨0, rfl, Nat.zero_le _, (by first | rfl | trivial), by show _ = _; rfl⟩
       case round =>
        obtain ⟨k4, rfl, hk4, rfl, hE4⟩ := hrel
        by_cases hlt4 : k4 < na
        ·exfalso
         have := Ha0.out
         omega
        ·have hfin := hide (show propE nameOK p q = 0 from hB.out.trans (by
          have h1 := hE4.out
          rwa [List.take_of_length_le (by have := hLH.out.2.2.2.2.1; omega)] at h1))
         clear hE4
         go_wp2_with fail
         go_ret
         exact ⟨congrArg (Value.int .i64) hfin.out.symm, hb07.out⟩
      have G1 : (0 : Int) < (na : Int) := by omega
      have hne := hide (show q.adj.isEmpty = false from by rw [isEmpty_len]; exact decide_eq_false (by have := hLH.out.2.2.2.2.1; omega))
      by_cases ht1 : p.topo = 1
      case pos =>
       have G3 : (p.topo == 1) = true := by simp [ht1]
       have Ht1 := hide ht1
       clear ht1
       go_wp2_with fail
       go_ret
       exact ⟨congrArg (Value.int .i64) (hA.out.trans (by unfold adjE; rw [hne.out, decide_eq_true Ht1.out]; rfl)).symm, hb07.out⟩
      have G3 : (p.topo == 1) = false := by simp [ht1]
      have Ht1 := hide ht1
      clear ht1
      have G2 : ((na : Int) != 0) = true := by simp [ha0]
      have hlq : q.adj.length = na := hLH.out.2.2.2.2.1.symm
      have hlqH := hide hlq
      clear hlq
      by_cases ha2 : na = 2
      case neg =>
       have G4 : ((na : Int) != 2) = true := by
        have : ((na : Int) == 2) = false := by
         simp
         omega
        simp [bne, this]
       have Ha2 := hide ha2
       clear ha2
       go_wp2_with fail
       go_ret
       exact ⟨congrArg (Value.int .i64) (hA.out.trans (by unfold adjE; rw [hne.out, decide_eq_false Ht1.out, hlqH.out, decide_eq_false Ha2.out]; rfl)).symm, hb07.out⟩
      have G4 : ((na : Int) != 2) = false := by simp [ha2]
      have hB := hide (show propE nameOK p q = allE (fun x => whenE (!inE x (ns : Int)) 5) q.adj from hA.out.trans (by unfold adjE; rw [hne.out, decide_eq_false Ht1.out, hlqH.out, decide_eq_true ha2]; rfl))
      have Ha2 := hide ha2
      clear ha2
      go_wp2_with fail
      clear G1 G2 G3 G4
      go_loopw [12] (fun ii wr => ∃ (k : Nat), ii = .int .i64 (k : Int) ∧ k ≤ na ∧ w7x = wr ∧ Hid (allE (fun x => whenE (!inE x (ns : Int)) 5) (q.adj.take k) = 0)) (fun ii _ => na - (intOf ii).toNat)
      case atStart => exact ⟨0, rfl, Nat.zero_le _, (by first | rfl | trivial), by show _ = _; rfl⟩
      case round =>
       obtain ⟨k4, rfl, hk4, rfl, hE4⟩ := hrel
       by_cases hlt4 : k4 < na
       ·obtain ⟨b4, off4, x, hA4, hbk4, hx4, hcx4⟩ := (hK3.out.keep (w' := w7x) (B' := w.heap.size) (fun _ hp => hb07.out.cell hp) (Nat.le_refl _)).at (k := k4) (by have := hLH.out.2.2.2.2.1; omega)
        have d4 := hcx4 0 (by omega)
        simp only [Nat.add_zero, Nat.mul_one, encI] at d4
        have hx4H := hide hx4
        subst hA4
        clear hcx4 hx4
        go_wp2_with fail
        cases hin : inC x 0 ((ns : Int) - 1)
        ·have Fin := hide hin
         clear hin
         have hst := hide (show allE (fun x => whenE (!inE x (ns : Int)) 5) q.adj = 5 from by
          have h1 : whenE (!inE x (ns : Int)) 5 = 5 := by rw [inE_inC, Fin.out]; rfl
          rw [allE_stop (fun x => whenE (!inE x (ns : Int)) 5) hx4H.out hE4.out (by rw [h1]; decide), h1])
         refine (within2_any _ _ _ _).mono ?_; rintro e w' ⟨rfl, rfl⟩; rw [Fin.out]; go_wp2_with fail
         go_ret
         exact ⟨congrArg (Value.int .i64) (hB.out.trans hst.out).symm, hb07.out⟩
        ·have Fin := hide hin
         clear hin
         have hnx := hide (show allE (fun x => whenE (!inE x (ns : Int)) 5) (q.adj.take (k4 + 1)) = 0 from by
          rw [allE_take (fun x => whenE (!inE x (ns : Int)) 5) hx4H.out hE4.out, inE_inC, Fin.out]
          rfl)
         refine (within2_any _ _ _ _).mono ?_; rintro e w' ⟨rfl, rfl⟩; rw [Fin.out]; go_wp2_with fail
         exact ⟨⟨k4 + 1, by go_num, by omega, (by first | rfl | trivial), hnx.out⟩, by simp [intOf]; omega⟩
       ·have hfin := hide (show propE nameOK p q = 0 from hB.out.trans (by
         have h1 := hE4.out
         rwa [List.take_of_length_le (by have := hLH.out.2.2.2.2.1; omega)] at h1))
        clear hE4
        go_wp2_with fail
        go_ret
        exact ⟨congrArg (Value.int .i64) hfin.out.symm, hb07.out⟩
end Go.Proofs.YtbjdgepfhhafjaaDoor
