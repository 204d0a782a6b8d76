/-
  Part XI of a proof.
-/
import Derived.Test.YtbjdgepfhhafjaaDoorXA
import Derived.Test.YtbjdgepfhhafjaaDoorXG
set_option maxHeartbeats 16000000
set_option maxRecDepth 100000
set_option linter.unusedVariables false
set_option linter.unusedSimpArgs false
namespace Go.Proofs.YtbjdgepfhhafjaaDoor
open Go.RowKit
attribute [-go_sem] loadCellsFrom storeCells
theorem re_k41 {w : World} {cs : List Value} {p : ProtD} {r : RuleD} {i : Nat} (h : ProtIs w w.heap.size cs p) (hr : p.rules[i]? = some r) (hs : r.Small) (hnm : r.name.size ≤ 9223372036854775807) (hT : SpOK w) (hok : Hid (nameOK r.name = true)) (htk : Hid (((p.rules.take i).any fun x => decide (x.name = r.name)) = false)) (hfit : Hid (fitsP r.kind p.topo = true)) (hsur : Hid (surplusP p.topo r = false)) (hidx : Hid (orE (idxE r.fr (p.states.length : Int)) (idxE r.to (p.states.length : Int)) = 0)) (hkd : r.kind = 4) (ha : r.at_ < 0) :
  Calls Tryd.prog 40 #[.agg cs.toArray, .int .i64 (i : Int)] w (Ret fun v w' => v = .int .i64 (kindP p.topo (p.states.length : Int) (p.messages.length : Int) (p.values.length : Int) r) ∧ Below w.heap.size w w') := by
 obtain ⟨A1, c1, A2, c2, A3, c3, A4, c4, A5, c5, A6, c6, A7, c7, E1, f1, E2, f2, E3, f3, E4, f4, E5, f5, E6, f6, E7, f7, E8, f8, b, off, w1, w2, hn7, hcap, hil, rfl, rfl, hw1, hc21, hlc, hsc, hX2, hrows2, hcnH, hlt5, hb02, htlH, hbk⟩ := re_head h hr hT
 replace hrows2 := hide hrows2
 replace hcnH := hide hcnH
 replace hb02 := hide hb02
 replace htlH := hide htlH
 have hX2H := hide hX2
 have hc22 := hX2.b2.cell
 have hc52 := hX2.b5.cell
 have hl22 := hX2.load2 rfl
 have hl52 := hX2.load5 rfl
 clear hX2 hT h
 have hcf := hide (containsFunc_any (c := c7) hrows2.out hcnH.out hlt5)
 rw [htlH.out] at hcf
 go_enter Tryd.func40, Tryd.ntmps40
 have hm := hide (show (decide (r.at_ < 0) || decide (2 < r.at_) || (!decide (r.at_ = 0) && decide (p.topo = 3))) = true from by simp [ha])
 have e1 : (r.kind == 1) = false := by simp [hkd]
 have e2 : (r.kind == 2) = false := by simp [hkd]
 have e3 : (r.kind == 3) = false := by simp [hkd]
 have e4 : (r.kind == 4) = true := by simp [hkd]
 have hkdH := hide hkd
 clear hkd
 go_wp2_with (first
  | (go_at_call 62; refine Calls.ret hcf.out ?_; rintro v w3 ⟨rfl, hb3⟩; rw [htk.out]; have hX3 := hX2H.out.at hb3; have hc23 := hX3.b2.cell; have hc53 := hX3.b5.cell; have hl23 := hX3.load2 rfl; have hl53 := hX3.load5 rfl; have hX3H := hide hX3; have hb03 := hide (hb02.out.trans (hb3.mono hb02.out.size)); clear hb3 hX3 hc22 hc52 hl22 hl52)
  | (go_at_call 21; refine Calls.ret (validName_any r.name w3 hnm hX3H.out.tab) ?_; rintro v w4 ⟨rfl, hb4⟩; rw [hok.out]; have hX4 := hX3H.out.at hb4; have hc24 := hX4.b2.cell; have hc54 := hX4.b5.cell; have hl24 := hX4.load2 rfl; have hl54 := hX4.load5 rfl; have hX4H := hide hX4; have hb04 := hide (hb03.out.trans (hb4.mono hb03.out.size)); clear hb4 hX4 hc23 hc53 hl23 hl53)
  | (go_at_call 64; refine (fits_any _ _ _).mono ?_; rintro e w' ⟨rfl, rfl⟩; rw [hfit.out])
  | (go_at_call 65; refine Calls.ret (surplus_any hX4H.out.ru hs) ?_; rintro v w5 ⟨rfl, hb5⟩; rw [hsur.out]; have hX5 := hX4H.out.at hb5; have hc25 := hX5.b2.cell; have hc55 := hX5.b5.cell; have hl25 := hX5.load2 rfl; have hl55 := hX5.load5 rfl; have hX5H := hide hX5; have hb05 := hide (hb04.out.trans (hb5.mono hb04.out.size)); clear hb5 hX5 hc24 hc54 hl24 hl54))
 have hge6 := hide (show allE id [idxE r.fr (p.states.length : Int), idxE r.to (p.states.length : Int)] = 0 from by simp [allE, orE_self0]; exact hidx.out)
 have hX5d := hX5H.out.at (drewB w5)
 have hc25d := hX5d.b2.cell
 have hc55d := hX5d.b5.cell
 have hl25d := hX5d.load2 rfl
 have hl55d := hX5d.load5 rfl
 have hX5dH := hide hX5d
 have hb05d := hide (hb05.out.trans ((drewB w5).mono hb05.out.size))
 clear hX5d hc25 hc55 hl25 hl55
 refine Reg.cI [0, 1, 0, 7, 0, 16, 0, 127, 255, 511, 1023] [0, 1, 2, 4, 5, 6, 3, 7, 8, 9, 10] ?_
 refine Reg.wI [0, 1, 2, 4, 5, 6] [3, 7, 8, 9, 10] rfl fun Qf hQf => ?_
 go_wp2_with fail
 first | refine hQf _ _ ⟨rfl, ?_⟩ | refine ⟨rfl, ?_⟩
 try clear hQf
 refine Reg.aI 3 [7, 8, 9, 10] [5] rfl fun Qf hQf => ?_
 simp only [gT, gS, gZ]
 go_wp2_with (go_at_call 44; refine (index_any _ _ _).mono ?_; rintro e w' ⟨rfl, rfl⟩)
 first | refine hQf _ _ ⟨Reg.same_below (Below.refl _ _) [5] rfl, ?_⟩ | refine ⟨Reg.same_below (Below.refl _ _) [5] rfl, ?_⟩
 try clear hQf
 refine Reg.aI 7 [8, 9, 10] [] rfl fun Qf hQf => ?_
 simp only [gT, gS, gZ]
 go_wp2_with (go_at_call 44; refine (index_any _ _ _).mono ?_; rintro e w' ⟨rfl, rfl⟩)
 first | refine hQf _ _ ⟨Reg.nm, ?_⟩ | refine ⟨Reg.nm, ?_⟩
 try clear hQf
 obtain ⟨w6, hw6, hb6, hB6, hk6⟩ := box_blk w5.drew #[.int .i64 (idxE r.fr (p.states.length : Int)), .int .i64 (idxE r.to (p.states.length : Int))] 33
 have hS6 := hide (errs_sl (l := [idxE r.fr (p.states.length : Int), idxE r.to (p.states.length : Int)]) hB6 (by simp))
 have hq6 : Below w5.drew.heap.size w5.drew w6 := hb6
 clear hB6 hk6 hb6
 have hX6 := hX5dH.out.at hq6
 have hc26 := hX6.b2.cell
 have hc56 := hX6.b5.cell
 have hl26 := hX6.load2 rfl
 have hl56 := hX6.load5 rfl
 have hX6H := hide hX6
 have hb06 := hide (hb05d.out.trans (hq6.mono hb05d.out.size))
 clear hq6 hX6 hc25d hc55d hl25d hl55d
 refine Reg.wI [8] [9, 10] rfl fun Qf hQf => ?_
 go_wp2_with fail
 first | refine hQf _ _ ⟨rfl, ?_⟩ | refine ⟨rfl, ?_⟩
 try clear hQf
 refine Reg.aI 9 [10] [] rfl fun Qf hQf => ?_
 simp only [gT, gS, gZ]
 go_wp2_with (go_at_call 24; refine (first_any (l := [idxE r.fr (p.states.length : Int), idxE r.to (p.states.length : Int)]) hS6.out).mono ?_; rintro e w' ⟨rfl, rfl⟩; rw [hge6.out])
 first | refine hQf _ _ ⟨Reg.nm, ?_⟩ | refine ⟨Reg.nm, ?_⟩
 try clear hQf
 refine Reg.wI [10] [] rfl fun Qf hQf => ?_
 go_wp2_with fail
 first | refine hQf _ _ ⟨rfl, ?_⟩ | refine ⟨rfl, ?_⟩
 try clear hQf
 first | refine Reg.restI_end ?_ | skip
 go_wp2_with fail
 have hgez := hide (show allE id [setE r.left (p.states.length : Int), setE r.right (p.states.length : Int), setE r.parent (p.states.length : Int), whenE true 1] = kindP p.topo (p.states.length : Int) (p.messages.length : Int) (p.values.length : Int) r from by rw [← hm.out]; simp [allE, orE_self0, kindP, hkdH.out])
 have hX6d := hX6H.out.at (drewB w6)
 have hc26d := hX6d.b2.cell
 have hc56d := hX6d.b5.cell
 have hl26d := hX6d.load2 rfl
 have hl56d := hX6d.load5 rfl
 have hX6dH := hide hX6d
 have hb06d := hide (hb06.out.trans ((drewB w6).mono hb06.out.size))
 clear hX6d hc26 hc56 hl26 hl56
 refine Reg.cI [0, 1, 0, 7, 0, 16, 0, 127, 0, 256, 0, 2047, 0, 8191, 16383, 32767, 65535] [0, 1, 2, 4, 5, 6, 8, 9, 10, 12, 3, 7, 11, 13, 14, 15, 16] ?_
 refine Reg.wI [0, 1, 2, 4, 5, 6, 8, 9, 10, 12] [3, 7, 11, 13, 14, 15, 16] rfl fun Qf hQf => ?_
 go_wp2_with fail
 first | refine hQf _ _ ⟨rfl, ?_⟩ | refine ⟨rfl, ?_⟩
 try clear hQf
 refine Reg.aI 3 [7, 11, 13, 14, 15, 16] [5, 9] rfl fun Qf hQf => ?_
 simp only [gT, gS, gZ]
 go_wp2_with (go_at_call 22; refine Calls.ret (set_any (rule_parts hX6dH.out.ru).2.2.2.2.2.1) ?_; rintro v wa ⟨rfl, hba⟩)
 first | refine hQf _ _ ⟨Reg.same_below (hba) [5, 9] rfl, ?_⟩ | refine ⟨Reg.same_below (hba) [5, 9] rfl, ?_⟩
 try clear hQf
 have hXa := hX6dH.out.at hba
 have hc2a := hXa.b2.cell
 have hc5a := hXa.b5.cell
 have hl2a := hXa.load2 rfl
 have hl5a := hXa.load5 rfl
 have hXaH := hide hXa
 have hb0a := hide (hb06d.out.trans (hba.mono hb06d.out.size))
 clear hba hXa hc26d hc56d hl26d hl56d
 refine Reg.aI 7 [11, 13, 14, 15, 16] [9] rfl fun Qf hQf => ?_
 simp only [gT, gS, gZ]
 go_wp2_with (go_at_call 22; refine Calls.ret (set_any (rule_parts hXaH.out.ru).2.2.2.2.2.2.1) ?_; rintro v wb ⟨rfl, hbb⟩)
 first | refine hQf _ _ ⟨Reg.same_below (hbb) [9] rfl, ?_⟩ | refine ⟨Reg.same_below (hbb) [9] rfl, ?_⟩
 try clear hQf
 have hXb := hXaH.out.at hbb
 have hc2b := hXb.b2.cell
 have hc5b := hXb.b5.cell
 have hl2b := hXb.load2 rfl
 have hl5b := hXb.load5 rfl
 have hXbH := hide hXb
 have hb0b := hide (hb0a.out.trans (hbb.mono hb0a.out.size))
 clear hbb hXb hc2a hc5a hl2a hl5a
 refine Reg.aI 11 [13, 14, 15, 16] [] rfl fun Qf hQf => ?_
 simp only [gT, gS, gZ]
 go_wp2_with (go_at_call 22; refine Calls.ret (set_any (rule_parts hXbH.out.ru).2.2.2.2.2.2.2) ?_; rintro v wc ⟨rfl, hbc⟩)
 first | refine hQf _ _ ⟨Reg.nm, ?_⟩ | refine ⟨Reg.nm, ?_⟩
 try clear hQf
 have hXc := hXbH.out.at hbc
 have hc2c := hXc.b2.cell
 have hc5c := hXc.b5.cell
 have hl2c := hXc.load2 rfl
 have hl5c := hXc.load5 rfl
 have hXcH := hide hXc
 have hb0c := hide (hb0b.out.trans (hbc.mono hb0b.out.size))
 clear hbc hXc hc2b hc5b hl2b hl5b
 refine Reg.aI 13 [14, 15, 16] [] rfl fun Qf hQf => ?_
 simp only [gT, gS, gZ]
 go_wp2_with (go_at_call 25; refine (when_any _ _ _).mono ?_; rintro e w' ⟨rfl, rfl⟩)
 first | refine hQf _ _ ⟨Reg.nm, ?_⟩ | refine ⟨Reg.nm, ?_⟩
 try clear hQf
 obtain ⟨wz, hwz, hbz, hBz, hkz⟩ := box_blk wc #[.int .i64 (setE r.left (p.states.length : Int)), .int .i64 (setE r.right (p.states.length : Int)), .int .i64 (setE r.parent (p.states.length : Int)), .int .i64 (whenE true 1)] 33
 have hSz := hide (errs_sl (l := [setE r.left (p.states.length : Int), setE r.right (p.states.length : Int), setE r.parent (p.states.length : Int), whenE true 1]) hBz (by simp))
 have hqz := hbz
 clear hBz hkz hbz
 have hXz := hXcH.out.at hqz
 have hc2z := hXz.b2.cell
 have hc5z := hXz.b5.cell
 have hl2z := hXz.load2 rfl
 have hl5z := hXz.load5 rfl
 have hXzH := hide hXz
 have hb0z := hide (hb0c.out.trans (hqz.mono hb0c.out.size))
 clear hqz hXz hc2c hc5c hl2c hl5c
 refine Reg.wI [14] [15, 16] rfl fun Qf hQf => ?_
 go_wp2_with fail
 first | refine hQf _ _ ⟨rfl, ?_⟩ | refine ⟨rfl, ?_⟩
 try clear hQf
 refine Reg.aI 15 [16] [] rfl fun Qf hQf => ?_
 simp only [gT, gS, gZ]
 go_wp2_with (go_at_call 24; refine (first_any (l := [setE r.left (p.states.length : Int), setE r.right (p.states.length : Int), setE r.parent (p.states.length : Int), whenE true 1]) hSz.out).mono ?_; rintro e w' ⟨rfl, rfl⟩; rw [hgez.out])
 first | refine hQf _ _ ⟨Reg.nm, ?_⟩ | refine ⟨Reg.nm, ?_⟩
 try clear hQf
 refine Reg.wI [16] [] rfl fun Qf hQf => ?_
 go_wp2_with fail
 first | refine hQf _ _ ⟨rfl, ?_⟩ | refine ⟨rfl, ?_⟩
 try clear hQf
 first | refine Reg.restI_end ?_ | skip
 go_wp2_with fail
 go_ret
 exact ⟨rfl, hb0z.out⟩
theorem re_k42 {w : World} {cs : List Value} {p : ProtD} {r : RuleD} {i : Nat} (h : ProtIs w w.heap.size cs p) (hr : p.rules[i]? = some r) (hs : r.Small) (hnm : r.name.size ≤ 9223372036854775807) (hT : SpOK w) (hok : Hid (nameOK r.name = true)) (htk : Hid (((p.rules.take i).any fun x => decide (x.name = r.name)) = false)) (hfit : Hid (fitsP r.kind p.topo = true)) (hsur : Hid (surplusP p.topo r = false)) (hidx : Hid (orE (idxE r.fr (p.states.length : Int)) (idxE r.to (p.states.length : Int)) = 0)) (hkd : r.kind = 4) (ha : ¬ r.at_ < 0) (hb : 2 < r.at_) :
  Calls Tryd.prog 40 #[.agg cs.toArray, .int .i64 (i : Int)] w (Ret fun v w' => v = .int .i64 (kindP p.topo (p.states.length : Int) (p.messages.length : Int) (p.values.length : Int) r) ∧ Below w.heap.size w w') := by
 obtain ⟨A1, c1, A2, c2, A3, c3, A4, c4, A5, c5, A6, c6, A7, c7, E1, f1, E2, f2, E3, f3, E4, f4, E5, f5, E6, f6, E7, f7, E8, f8, b, off, w1, w2, hn7, hcap, hil, rfl, rfl, hw1, hc21, hlc, hsc, hX2, hrows2, hcnH, hlt5, hb02, htlH, hbk⟩ := re_head h hr hT
 replace hrows2 := hide hrows2
 replace hcnH := hide hcnH
 replace hb02 := hide hb02
 replace htlH := hide htlH
 have hX2H := hide hX2
 have hc22 := hX2.b2.cell
 have hc52 := hX2.b5.cell
 have hl22 := hX2.load2 rfl
 have hl52 := hX2.load5 rfl
 clear hX2 hT h
 have hcf := hide (containsFunc_any (c := c7) hrows2.out hcnH.out hlt5)
 rw [htlH.out] at hcf
 go_enter Tryd.func40, Tryd.ntmps40
 have hm := hide (show (decide (r.at_ < 0) || decide (2 < r.at_) || (!decide (r.at_ = 0) && decide (p.topo = 3))) = true from by simp [ha, hb])
 have e1 : (r.kind == 1) = false := by simp [hkd]
 have e2 : (r.kind == 2) = false := by simp [hkd]
 have e3 : (r.kind == 3) = false := by simp [hkd]
 have e4 : (r.kind == 4) = true := by simp [hkd]
 have hkdH := hide hkd
 clear hkd
 go_wp2_with (first
  | (go_at_call 62; refine Calls.ret hcf.out ?_; rintro v w3 ⟨rfl, hb3⟩; rw [htk.out]; have hX3 := hX2H.out.at hb3; have hc23 := hX3.b2.cell; have hc53 := hX3.b5.cell; have hl23 := hX3.load2 rfl; have hl53 := hX3.load5 rfl; have hX3H := hide hX3; have hb03 := hide (hb02.out.trans (hb3.mono hb02.out.size)); clear hb3 hX3 hc22 hc52 hl22 hl52)
  | (go_at_call 21; refine Calls.ret (validName_any r.name w3 hnm hX3H.out.tab) ?_; rintro v w4 ⟨rfl, hb4⟩; rw [hok.out]; have hX4 := hX3H.out.at hb4; have hc24 := hX4.b2.cell; have hc54 := hX4.b5.cell; have hl24 := hX4.load2 rfl; have hl54 := hX4.load5 rfl; have hX4H := hide hX4; have hb04 := hide (hb03.out.trans (hb4.mono hb03.out.size)); clear hb4 hX4 hc23 hc53 hl23 hl53)
  | (go_at_call 64; refine (fits_any _ _ _).mono ?_; rintro e w' ⟨rfl, rfl⟩; rw [hfit.out])
  | (go_at_call 65; refine Calls.ret (surplus_any hX4H.out.ru hs) ?_; rintro v w5 ⟨rfl, hb5⟩; rw [hsur.out]; have hX5 := hX4H.out.at hb5; have hc25 := hX5.b2.cell; have hc55 := hX5.b5.cell; have hl25 := hX5.load2 rfl; have hl55 := hX5.load5 rfl; have hX5H := hide hX5; have hb05 := hide (hb04.out.trans (hb5.mono hb04.out.size)); clear hb5 hX5 hc24 hc54 hl24 hl54))
 have hge6 := hide (show allE id [idxE r.fr (p.states.length : Int), idxE r.to (p.states.length : Int)] = 0 from by simp [allE, orE_self0]; exact hidx.out)
 have hX5d := hX5H.out.at (drewB w5)
 have hc25d := hX5d.b2.cell
 have hc55d := hX5d.b5.cell
 have hl25d := hX5d.load2 rfl
 have hl55d := hX5d.load5 rfl
 have hX5dH := hide hX5d
 have hb05d := hide (hb05.out.trans ((drewB w5).mono hb05.out.size))
 clear hX5d hc25 hc55 hl25 hl55
 refine Reg.cI [0, 1, 0, 7, 0, 16, 0, 127, 255, 511, 1023] [0, 1, 2, 4, 5, 6, 3, 7, 8, 9, 10] ?_
 refine Reg.wI [0, 1, 2, 4, 5, 6] [3, 7, 8, 9, 10] rfl fun Qf hQf => ?_
 go_wp2_with fail
 first | refine hQf _ _ ⟨rfl, ?_⟩ | refine ⟨rfl, ?_⟩
 try clear hQf
 refine Reg.aI 3 [7, 8, 9, 10] [5] rfl fun Qf hQf => ?_
 simp only [gT, gS, gZ]
 go_wp2_with (go_at_call 44; refine (index_any _ _ _).mono ?_; rintro e w' ⟨rfl, rfl⟩)
 first | refine hQf _ _ ⟨Reg.same_below (Below.refl _ _) [5] rfl, ?_⟩ | refine ⟨Reg.same_below (Below.refl _ _) [5] rfl, ?_⟩
 try clear hQf
 refine Reg.aI 7 [8, 9, 10] [] rfl fun Qf hQf => ?_
 simp only [gT, gS, gZ]
 go_wp2_with (go_at_call 44; refine (index_any _ _ _).mono ?_; rintro e w' ⟨rfl, rfl⟩)
 first | refine hQf _ _ ⟨Reg.nm, ?_⟩ | refine ⟨Reg.nm, ?_⟩
 try clear hQf
 obtain ⟨w6, hw6, hb6, hB6, hk6⟩ := box_blk w5.drew #[.int .i64 (idxE r.fr (p.states.length : Int)), .int .i64 (idxE r.to (p.states.length : Int))] 33
 have hS6 := hide (errs_sl (l := [idxE r.fr (p.states.length : Int), idxE r.to (p.states.length : Int)]) hB6 (by simp))
 have hq6 : Below w5.drew.heap.size w5.drew w6 := hb6
 clear hB6 hk6 hb6
 have hX6 := hX5dH.out.at hq6
 have hc26 := hX6.b2.cell
 have hc56 := hX6.b5.cell
 have hl26 := hX6.load2 rfl
 have hl56 := hX6.load5 rfl
 have hX6H := hide hX6
 have hb06 := hide (hb05d.out.trans (hq6.mono hb05d.out.size))
 clear hq6 hX6 hc25d hc55d hl25d hl55d
 refine Reg.wI [8] [9, 10] rfl fun Qf hQf => ?_
 go_wp2_with fail
 first | refine hQf _ _ ⟨rfl, ?_⟩ | refine ⟨rfl, ?_⟩
 try clear hQf
 refine Reg.aI 9 [10] [] rfl fun Qf hQf => ?_
 simp only [gT, gS, gZ]
 go_wp2_with (go_at_call 24; refine (first_any (l := [idxE r.fr (p.states.length : Int), idxE r.to (p.states.length : Int)]) hS6.out).mono ?_; rintro e w' ⟨rfl, rfl⟩; rw [hge6.out])
 first | refine hQf _ _ ⟨Reg.nm, ?_⟩ | refine ⟨Reg.nm, ?_⟩
 try clear hQf
 refine Reg.wI [10] [] rfl fun Qf hQf => ?_
 go_wp2_with fail
 first | refine hQf _ _ ⟨rfl, ?_⟩ | refine ⟨rfl, ?_⟩
 try clear hQf
 first | refine Reg.restI_end ?_ | skip
 go_wp2_with fail
 have hgez := hide (show allE id [setE r.left (p.states.length : Int), setE r.right (p.states.length : Int), setE r.parent (p.states.length : Int), whenE true 1] = kindP p.topo (p.states.length : Int) (p.messages.length : Int) (p.values.length : Int) r from by rw [← hm.out]; simp [allE, orE_self0, kindP, hkdH.out])
 have hX6d := hX6H.out.at (drewB w6)
 have hc26d := hX6d.b2.cell
 have hc56d := hX6d.b5.cell
 have hl26d := hX6d.load2 rfl
 have hl56d := hX6d.load5 rfl
 have hX6dH := hide hX6d
 have hb06d := hide (hb06.out.trans ((drewB w6).mono hb06.out.size))
 clear hX6d hc26 hc56 hl26 hl56
 refine Reg.cI [0, 1, 0, 7, 0, 16, 0, 127, 0, 256, 0, 2047, 0, 8191, 16383, 32767, 65535] [0, 1, 2, 4, 5, 6, 8, 9, 10, 12, 3, 7, 11, 13, 14, 15, 16] ?_
 refine Reg.wI [0, 1, 2, 4, 5, 6, 8, 9, 10, 12] [3, 7, 11, 13, 14, 15, 16] rfl fun Qf hQf => ?_
 go_wp2_with fail
 first | refine hQf _ _ ⟨rfl, ?_⟩ | refine ⟨rfl, ?_⟩
 try clear hQf
 refine Reg.aI 3 [7, 11, 13, 14, 15, 16] [5, 9] rfl fun Qf hQf => ?_
 simp only [gT, gS, gZ]
 go_wp2_with (go_at_call 22; refine Calls.ret (set_any (rule_parts hX6dH.out.ru).2.2.2.2.2.1) ?_; rintro v wa ⟨rfl, hba⟩)
 first | refine hQf _ _ ⟨Reg.same_below (hba) [5, 9] rfl, ?_⟩ | refine ⟨Reg.same_below (hba) [5, 9] rfl, ?_⟩
 try clear hQf
 have hXa := hX6dH.out.at hba
 have hc2a := hXa.b2.cell
 have hc5a := hXa.b5.cell
 have hl2a := hXa.load2 rfl
 have hl5a := hXa.load5 rfl
 have hXaH := hide hXa
 have hb0a := hide (hb06d.out.trans (hba.mono hb06d.out.size))
 clear hba hXa hc26d hc56d hl26d hl56d
 refine Reg.aI 7 [11, 13, 14, 15, 16] [9] rfl fun Qf hQf => ?_
 simp only [gT, gS, gZ]
 go_wp2_with (go_at_call 22; refine Calls.ret (set_any (rule_parts hXaH.out.ru).2.2.2.2.2.2.1) ?_; rintro v wb ⟨rfl, hbb⟩)
 first | refine hQf _ _ ⟨Reg.same_below (hbb) [9] rfl, ?_⟩ | refine ⟨Reg.same_below (hbb) [9] rfl, ?_⟩
 try clear hQf
 have hXb := hXaH.out.at hbb
 have hc2b := hXb.b2.cell
 have hc5b := hXb.b5.cell
 have hl2b := hXb.load2 rfl
 have hl5b := hXb.load5 rfl
 have hXbH := hide hXb
 have hb0b := hide (hb0a.out.trans (hbb.mono hb0a.out.size))
 clear hbb hXb hc2a hc5a hl2a hl5a
 refine Reg.aI 11 [13, 14, 15, 16] [] rfl fun Qf hQf => ?_
 simp only [gT, gS, gZ]
 go_wp2_with (go_at_call 22; refine Calls.ret (set_any (rule_parts hXbH.out.ru).2.2.2.2.2.2.2) ?_; rintro v wc ⟨rfl, hbc⟩)
 first | refine hQf _ _ ⟨Reg.nm, ?_⟩ | refine ⟨Reg.nm, ?_⟩
 try clear hQf
 have hXc := hXbH.out.at hbc
 have hc2c := hXc.b2.cell
 have hc5c := hXc.b5.cell
 have hl2c := hXc.load2 rfl
 have hl5c := hXc.load5 rfl
 have hXcH := hide hXc
 have hb0c := hide (hb0b.out.trans (hbc.mono hb0b.out.size))
 clear hbc hXc hc2b hc5b hl2b hl5b
 refine Reg.aI 13 [14, 15, 16] [] rfl fun Qf hQf => ?_
 simp only [gT, gS, gZ]
 go_wp2_with (go_at_call 25; refine (when_any _ _ _).mono ?_; rintro e w' ⟨rfl, rfl⟩)
 first | refine hQf _ _ ⟨Reg.nm, ?_⟩ | refine ⟨Reg.nm, ?_⟩
 try clear hQf
 obtain ⟨wz, hwz, hbz, hBz, hkz⟩ := box_blk wc #[.int .i64 (setE r.left (p.states.length : Int)), .int .i64 (setE r.right (p.states.length : Int)), .int .i64 (setE r.parent (p.states.length : Int)), .int .i64 (whenE true 1)] 33
 have hSz := hide (errs_sl (l := [setE r.left (p.states.length : Int), setE r.right (p.states.length : Int), setE r.parent (p.states.length : Int), whenE true 1]) hBz (by simp))
 have hqz := hbz
 clear hBz hkz hbz
 have hXz := hXcH.out.at hqz
 have hc2z := hXz.b2.cell
 have hc5z := hXz.b5.cell
 have hl2z := hXz.load2 rfl
 have hl5z := hXz.load5 rfl
 have hXzH := hide hXz
 have hb0z := hide (hb0c.out.trans (hqz.mono hb0c.out.size))
 clear hqz hXz hc2c hc5c hl2c hl5c
 refine Reg.wI [14] [15, 16] rfl fun Qf hQf => ?_
 go_wp2_with fail
 first | refine hQf _ _ ⟨rfl, ?_⟩ | refine ⟨rfl, ?_⟩
 try clear hQf
 refine Reg.aI 15 [16] [] rfl fun Qf hQf => ?_
 simp only [gT, gS, gZ]
 go_wp2_with (go_at_call 24; refine (first_any (l := [setE r.left (p.states.length : Int), setE r.right (p.states.length : Int), setE r.parent (p.states.length : Int), whenE true 1]) hSz.out).mono ?_; rintro e w' ⟨rfl, rfl⟩; rw [hgez.out])
 first | refine hQf _ _ ⟨Reg.nm, ?_⟩ | refine ⟨Reg.nm, ?_⟩
 try clear hQf
 refine Reg.wI [16] [] rfl fun Qf hQf => ?_
 go_wp2_with fail
 first | refine hQf _ _ ⟨rfl, ?_⟩ | refine ⟨rfl, ?_⟩
 try clear hQf
 first | refine Reg.restI_end ?_ | skip
 go_wp2_with fail
 go_ret
 exact ⟨rfl, hb0z.out⟩
theorem re_k43 {w : World} {cs : List Value} {p : ProtD} {r : RuleD} {i : Nat} (h : ProtIs w w.heap.size cs p) (hr : p.rules[i]? = some r) (hs : r.Small) (hnm : r.name.size ≤ 9223372036854775807) (hT : SpOK w) (hok : Hid (nameOK r.name = true)) (htk : Hid (((p.rules.take i).any fun x => decide (x.name = r.name)) = false)) (hfit : Hid (fitsP r.kind p.topo = true)) (hsur : Hid (surplusP p.topo r = false)) (hidx : Hid (orE (idxE r.fr (p.states.length : Int)) (idxE r.to (p.states.length : Int)) = 0)) (hkd : r.kind = 4) (ha : ¬ r.at_ < 0) (hb : ¬ 2 < r.at_) (hc : r.at_ = 0) :
  Calls Tryd.prog 40 #[.agg cs.toArray, .int .i64 (i : Int)] w (Ret fun v w' => v = .int .i64 (kindP p.topo (p.states.length : Int) (p.messages.length : Int) (p.values.length : Int) r) ∧ Below w.heap.size w w') := by
 obtain ⟨A1, c1, A2, c2, A3, c3, A4, c4, A5, c5, A6, c6, A7, c7, E1, f1, E2, f2, E3, f3, E4, f4, E5, f5, E6, f6, E7, f7, E8, f8, b, off, w1, w2, hn7, hcap, hil, rfl, rfl, hw1, hc21, hlc, hsc, hX2, hrows2, hcnH, hlt5, hb02, htlH, hbk⟩ := re_head h hr hT
 replace hrows2 := hide hrows2
 replace hcnH := hide hcnH
 replace hb02 := hide hb02
 replace htlH := hide htlH
 have hX2H := hide hX2
 have hc22 := hX2.b2.cell
 have hc52 := hX2.b5.cell
 have hl22 := hX2.load2 rfl
 have hl52 := hX2.load5 rfl
 clear hX2 hT h
 have hcf := hide (containsFunc_any (c := c7) hrows2.out hcnH.out hlt5)
 rw [htlH.out] at hcf
 go_enter Tryd.func40, Tryd.ntmps40
 have hm := hide (show (decide (r.at_ < 0) || decide (2 < r.at_) || (!decide (r.at_ = 0) && decide (p.topo = 3))) = (decide (r.at_ < 0) || decide (2 < r.at_)) from by simp [ha, hb, hc])
 have e1 : (r.kind == 1) = false := by simp [hkd]
 have e2 : (r.kind == 2) = false := by simp [hkd]
 have e3 : (r.kind == 3) = false := by simp [hkd]
 have e4 : (r.kind == 4) = true := by simp [hkd]
 have hkdH := hide hkd
 clear hkd
 have ec : (r.at_ != 0) = false := by simp [hc]
 have hcH := hide hc
 clear hc
 go_wp2_with (first
  | (go_at_call 62; refine Calls.ret hcf.out ?_; rintro v w3 ⟨rfl, hb3⟩; rw [htk.out]; have hX3 := hX2H.out.at hb3; have hc23 := hX3.b2.cell; have hc53 := hX3.b5.cell; have hl23 := hX3.load2 rfl; have hl53 := hX3.load5 rfl; have hX3H := hide hX3; have hb03 := hide (hb02.out.trans (hb3.mono hb02.out.size)); clear hb3 hX3 hc22 hc52 hl22 hl52)
  | (go_at_call 21; refine Calls.ret (validName_any r.name w3 hnm hX3H.out.tab) ?_; rintro v w4 ⟨rfl, hb4⟩; rw [hok.out]; have hX4 := hX3H.out.at hb4; have hc24 := hX4.b2.cell; have hc54 := hX4.b5.cell; have hl24 := hX4.load2 rfl; have hl54 := hX4.load5 rfl; have hX4H := hide hX4; have hb04 := hide (hb03.out.trans (hb4.mono hb03.out.size)); clear hb4 hX4 hc23 hc53 hl23 hl53)
  | (go_at_call 64; refine (fits_any _ _ _).mono ?_; rintro e w' ⟨rfl, rfl⟩; rw [hfit.out])
  | (go_at_call 65; refine Calls.ret (surplus_any hX4H.out.ru hs) ?_; rintro v w5 ⟨rfl, hb5⟩; rw [hsur.out]; have hX5 := hX4H.out.at hb5; have hc25 := hX5.b2.cell; have hc55 := hX5.b5.cell; have hl25 := hX5.load2 rfl; have hl55 := hX5.load5 rfl; have hX5H := hide hX5; have hb05 := hide (hb04.out.trans (hb5.mono hb04.out.size)); clear hb5 hX5 hc24 hc54 hl24 hl54))
 have hge6 := hide (show allE id [idxE r.fr (p.states.length : Int), idxE r.to (p.states.length : Int)] = 0 from by simp [allE, orE_self0]; exact hidx.out)
 have hX5d := hX5H.out.at (drewB w5)
 have hc25d := hX5d.b2.cell
 have hc55d := hX5d.b5.cell
 have hl25d := hX5d.load2 rfl
 have hl55d := hX5d.load5 rfl
 have hX5dH := hide hX5d
 have hb05d := hide (hb05.out.trans ((drewB w5).mono hb05.out.size))
 clear hX5d hc25 hc55 hl25 hl55
 refine Reg.cI [0, 1, 0, 7, 0, 16, 0, 127, 255, 511, 1023] [0, 1, 2, 4, 5, 6, 3, 7, 8, 9, 10] ?_
 refine Reg.wI [0, 1, 2, 4, 5, 6] [3, 7, 8, 9, 10] rfl fun Qf hQf => ?_
 go_wp2_with fail
 first | refine hQf _ _ ⟨rfl, ?_⟩ | refine ⟨rfl, ?_⟩
 try clear hQf
 refine Reg.aI 3 [7, 8, 9, 10] [5] rfl fun Qf hQf => ?_
 simp only [gT, gS, gZ]
 go_wp2_with (go_at_call 44; refine (index_any _ _ _).mono ?_; rintro e w' ⟨rfl, rfl⟩)
 first | refine hQf _ _ ⟨Reg.same_below (Below.refl _ _) [5] rfl, ?_⟩ | refine ⟨Reg.same_below (Below.refl _ _) [5] rfl, ?_⟩
 try clear hQf
 refine Reg.aI 7 [8, 9, 10] [] rfl fun Qf hQf => ?_
 simp only [gT, gS, gZ]
 go_wp2_with (go_at_call 44; refine (index_any _ _ _).mono ?_; rintro e w' ⟨rfl, rfl⟩)
 first | refine hQf _ _ ⟨Reg.nm, ?_⟩ | refine ⟨Reg.nm, ?_⟩
 try clear hQf
 obtain ⟨w6, hw6, hb6, hB6, hk6⟩ := box_blk w5.drew #[.int .i64 (idxE r.fr (p.states.length : Int)), .int .i64 (idxE r.to (p.states.length : Int))] 33
 have hS6 := hide (errs_sl (l := [idxE r.fr (p.states.length : Int), idxE r.to (p.states.length : Int)]) hB6 (by simp))
 have hq6 : Below w5.drew.heap.size w5.drew w6 := hb6
 clear hB6 hk6 hb6
 have hX6 := hX5dH.out.at hq6
 have hc26 := hX6.b2.cell
 have hc56 := hX6.b5.cell
 have hl26 := hX6.load2 rfl
 have hl56 := hX6.load5 rfl
 have hX6H := hide hX6
 have hb06 := hide (hb05d.out.trans (hq6.mono hb05d.out.size))
 clear hq6 hX6 hc25d hc55d hl25d hl55d
 refine Reg.wI [8] [9, 10] rfl fun Qf hQf => ?_
 go_wp2_with fail
 first | refine hQf _ _ ⟨rfl, ?_⟩ | refine ⟨rfl, ?_⟩
 try clear hQf
 refine Reg.aI 9 [10] [] rfl fun Qf hQf => ?_
 simp only [gT, gS, gZ]
 go_wp2_with (go_at_call 24; refine (first_any (l := [idxE r.fr (p.states.length : Int), idxE r.to (p.states.length : Int)]) hS6.out).mono ?_; rintro e w' ⟨rfl, rfl⟩; rw [hge6.out])
 first | refine hQf _ _ ⟨Reg.nm, ?_⟩ | refine ⟨Reg.nm, ?_⟩
 try clear hQf
 refine Reg.wI [10] [] rfl fun Qf hQf => ?_
 go_wp2_with fail
 first | refine hQf _ _ ⟨rfl, ?_⟩ | refine ⟨rfl, ?_⟩
 try clear hQf
 first | refine Reg.restI_end ?_ | skip
 go_wp2_with fail
 have hgez := hide (show allE id [setE r.left (p.states.length : Int), setE r.right (p.states.length : Int), setE r.parent (p.states.length : Int), whenE (decide (r.at_ < 0) || decide (2 < r.at_)) 1] = kindP p.topo (p.states.length : Int) (p.messages.length : Int) (p.values.length : Int) r from by rw [← hm.out]; simp [allE, orE_self0, kindP, hkdH.out])
 have hX6d := hX6H.out.at (drewB w6)
 have hc26d := hX6d.b2.cell
 have hc56d := hX6d.b5.cell
 have hl26d := hX6d.load2 rfl
 have hl56d := hX6d.load5 rfl
 have hX6dH := hide hX6d
 have hb06d := hide (hb06.out.trans ((drewB w6).mono hb06.out.size))
 clear hX6d hc26 hc56 hl26 hl56
 refine Reg.cI [0, 1, 0, 7, 0, 16, 0, 127, 0, 256, 0, 2047, 0, 8191, 16383, 32767, 65535] [0, 1, 2, 4, 5, 6, 8, 9, 10, 12, 3, 7, 11, 13, 14, 15, 16] ?_
 refine Reg.wI [0, 1, 2, 4, 5, 6, 8, 9, 10, 12] [3, 7, 11, 13, 14, 15, 16] rfl fun Qf hQf => ?_
 go_wp2_with fail
 first | refine hQf _ _ ⟨rfl, ?_⟩ | refine ⟨rfl, ?_⟩
 try clear hQf
 refine Reg.aI 3 [7, 11, 13, 14, 15, 16] [5, 9] rfl fun Qf hQf => ?_
 simp only [gT, gS, gZ]
 go_wp2_with (go_at_call 22; refine Calls.ret (set_any (rule_parts hX6dH.out.ru).2.2.2.2.2.1) ?_; rintro v wa ⟨rfl, hba⟩)
 first | refine hQf _ _ ⟨Reg.same_below (hba) [5, 9] rfl, ?_⟩ | refine ⟨Reg.same_below (hba) [5, 9] rfl, ?_⟩
 try clear hQf
 have hXa := hX6dH.out.at hba
 have hc2a := hXa.b2.cell
 have hc5a := hXa.b5.cell
 have hl2a := hXa.load2 rfl
 have hl5a := hXa.load5 rfl
 have hXaH := hide hXa
 have hb0a := hide (hb06d.out.trans (hba.mono hb06d.out.size))
 clear hba hXa hc26d hc56d hl26d hl56d
 refine Reg.aI 7 [11, 13, 14, 15, 16] [9] rfl fun Qf hQf => ?_
 simp only [gT, gS, gZ]
 go_wp2_with (go_at_call 22; refine Calls.ret (set_any (rule_parts hXaH.out.ru).2.2.2.2.2.2.1) ?_; rintro v wb ⟨rfl, hbb⟩)
 first | refine hQf _ _ ⟨Reg.same_below (hbb) [9] rfl, ?_⟩ | refine ⟨Reg.same_below (hbb) [9] rfl, ?_⟩
 try clear hQf
 have hXb := hXaH.out.at hbb
 have hc2b := hXb.b2.cell
 have hc5b := hXb.b5.cell
 have hl2b := hXb.load2 rfl
 have hl5b := hXb.load5 rfl
 have hXbH := hide hXb
 have hb0b := hide (hb0a.out.trans (hbb.mono hb0a.out.size))
 clear hbb hXb hc2a hc5a hl2a hl5a
 refine Reg.aI 11 [13, 14, 15, 16] [] rfl fun Qf hQf => ?_
 simp only [gT, gS, gZ]
 go_wp2_with (go_at_call 22; refine Calls.ret (set_any (rule_parts hXbH.out.ru).2.2.2.2.2.2.2) ?_; rintro v wc ⟨rfl, hbc⟩)
 first | refine hQf _ _ ⟨Reg.nm, ?_⟩ | refine ⟨Reg.nm, ?_⟩
 try clear hQf
 have hXc := hXbH.out.at hbc
 have hc2c := hXc.b2.cell
 have hc5c := hXc.b5.cell
 have hl2c := hXc.load2 rfl
 have hl5c := hXc.load5 rfl
 have hXcH := hide hXc
 have hb0c := hide (hb0b.out.trans (hbc.mono hb0b.out.size))
 clear hbc hXc hc2b hc5b hl2b hl5b
 refine Reg.aI 13 [14, 15, 16] [] rfl fun Qf hQf => ?_
 simp only [gT, gS, gZ]
 go_wp2_with (go_at_call 25; refine (when_any _ _ _).mono ?_; rintro e w' ⟨rfl, rfl⟩)
 first | refine hQf _ _ ⟨Reg.nm, ?_⟩ | refine ⟨Reg.nm, ?_⟩
 try clear hQf
 obtain ⟨wz, hwz, hbz, hBz, hkz⟩ := box_blk wc #[.int .i64 (setE r.left (p.states.length : Int)), .int .i64 (setE r.right (p.states.length : Int)), .int .i64 (setE r.parent (p.states.length : Int)), .int .i64 (whenE (decide (r.at_ < 0) || decide (2 < r.at_)) 1)] 33
 have hSz := hide (errs_sl (l := [setE r.left (p.states.length : Int), setE r.right (p.states.length : Int), setE r.parent (p.states.length : Int), whenE (decide (r.at_ < 0) || decide (2 < r.at_)) 1]) hBz (by simp))
 have hqz := hbz
 clear hBz hkz hbz
 have hXz := hXcH.out.at hqz
 have hc2z := hXz.b2.cell
 have hc5z := hXz.b5.cell
 have hl2z := hXz.load2 rfl
 have hl5z := hXz.load5 rfl
 have hXzH := hide hXz
 have hb0z := hide (hb0c.out.trans (hqz.mono hb0c.out.size))
 clear hqz hXz hc2c hc5c hl2c hl5c
 refine Reg.wI [14] [15, 16] rfl fun Qf hQf => ?_
 go_wp2_with fail
 first | refine hQf _ _ ⟨rfl, ?_⟩ | refine ⟨rfl, ?_⟩
 try clear hQf
 refine Reg.aI 15 [16] [] rfl fun Qf hQf => ?_
 simp only [gT, gS, gZ]
 go_wp2_with (go_at_call 24; refine (first_any (l := [setE r.left (p.states.length : Int), setE r.right (p.states.length : Int), setE r.parent (p.states.length : Int), whenE (decide (r.at_ < 0) || decide (2 < r.at_)) 1]) hSz.out).mono ?_; rintro e w' ⟨rfl, rfl⟩; rw [hgez.out])
 first | refine hQf _ _ ⟨Reg.nm, ?_⟩ | refine ⟨Reg.nm, ?_⟩
 try clear hQf
 refine Reg.wI [16] [] rfl fun Qf hQf => ?_
 go_wp2_with fail
 first | refine hQf _ _ ⟨rfl, ?_⟩ | refine ⟨rfl, ?_⟩
 try clear hQf
 first | refine Reg.restI_end ?_ | skip
 go_wp2_with fail
 go_ret
 exact ⟨rfl, hb0z.out⟩
theorem re_k44 {w : World} {cs : List Value} {p : ProtD} {r : RuleD} {i : Nat} (h : ProtIs w w.heap.size cs p) (hr : p.rules[i]? = some r) (hs : r.Small) (hnm : r.name.size ≤ 9223372036854775807) (hT : SpOK w) (hok : Hid (nameOK r.name = true)) (htk : Hid (((p.rules.take i).any fun x => decide (x.name = r.name)) = false)) (hfit : Hid (fitsP r.kind p.topo = true)) (hsur : Hid (surplusP p.topo r = false)) (hidx : Hid (orE (idxE r.fr (p.states.length : Int)) (idxE r.to (p.states.length : Int)) = 0)) (hkd : r.kind = 4) (ha : ¬ r.at_ < 0) (hb : ¬ 2 < r.at_) (hc : ¬ r.at_ = 0) (ht : p.topo = 3) :
  Calls Tryd.prog 40 #[.agg cs.toArray, .int .i64 (i : Int)] w (Ret fun v w' => v = .int .i64 (kindP p.topo (p.states.length : Int) (p.messages.length : Int) (p.values.length : Int) r) ∧ Below w.heap.size w w') := by
 obtain ⟨A1, c1, A2, c2, A3, c3, A4, c4, A5, c5, A6, c6, A7, c7, E1, f1, E2, f2, E3, f3, E4, f4, E5, f5, E6, f6, E7, f7, E8, f8, b, off, w1, w2, hn7, hcap, hil, rfl, rfl, hw1, hc21, hlc, hsc, hX2, hrows2, hcnH, hlt5, hb02, htlH, hbk⟩ := re_head h hr hT
 replace hrows2 := hide hrows2
 replace hcnH := hide hcnH
 replace hb02 := hide hb02
 replace htlH := hide htlH
 have hX2H := hide hX2
 have hc22 := hX2.b2.cell
 have hc52 := hX2.b5.cell
 have hl22 := hX2.load2 rfl
 have hl52 := hX2.load5 rfl
 clear hX2 hT h
 have hcf := hide (containsFunc_any (c := c7) hrows2.out hcnH.out hlt5)
 rw [htlH.out] at hcf
 go_enter Tryd.func40, Tryd.ntmps40
 have hm := hide (show (decide (r.at_ < 0) || decide (2 < r.at_) || (!decide (r.at_ = 0) && decide (p.topo = 3))) = true from by simp [ha, hb, hc, ht])
 have e1 : (r.kind == 1) = false := by simp [hkd]
 have e2 : (r.kind == 2) = false := by simp [hkd]
 have e3 : (r.kind == 3) = false := by simp [hkd]
 have e4 : (r.kind == 4) = true := by simp [hkd]
 have hkdH := hide hkd
 clear hkd
 have ec : (r.at_ != 0) = true := by simp [hc]
 have et : (p.topo == 3) = true := by simp [ht]
 have htH := hide ht
 clear ht
 go_wp2_with (first
  | (go_at_call 62; refine Calls.ret hcf.out ?_; rintro v w3 ⟨rfl, hb3⟩; rw [htk.out]; have hX3 := hX2H.out.at hb3; have hc23 := hX3.b2.cell; have hc53 := hX3.b5.cell; have hl23 := hX3.load2 rfl; have hl53 := hX3.load5 rfl; have hX3H := hide hX3; have hb03 := hide (hb02.out.trans (hb3.mono hb02.out.size)); clear hb3 hX3 hc22 hc52 hl22 hl52)
  | (go_at_call 21; refine Calls.ret (validName_any r.name w3 hnm hX3H.out.tab) ?_; rintro v w4 ⟨rfl, hb4⟩; rw [hok.out]; have hX4 := hX3H.out.at hb4; have hc24 := hX4.b2.cell; have hc54 := hX4.b5.cell; have hl24 := hX4.load2 rfl; have hl54 := hX4.load5 rfl; have hX4H := hide hX4; have hb04 := hide (hb03.out.trans (hb4.mono hb03.out.size)); clear hb4 hX4 hc23 hc53 hl23 hl53)
  | (go_at_call 64; refine (fits_any _ _ _).mono ?_; rintro e w' ⟨rfl, rfl⟩; rw [hfit.out])
  | (go_at_call 65; refine Calls.ret (surplus_any hX4H.out.ru hs) ?_; rintro v w5 ⟨rfl, hb5⟩; rw [hsur.out]; have hX5 := hX4H.out.at hb5; have hc25 := hX5.b2.cell; have hc55 := hX5.b5.cell; have hl25 := hX5.load2 rfl; have hl55 := hX5.load5 rfl; have hX5H := hide hX5; have hb05 := hide (hb04.out.trans (hb5.mono hb04.out.size)); clear hb5 hX5 hc24 hc54 hl24 hl54))
 have hge6 := hide (show allE id [idxE r.fr (p.states.length : Int), idxE r.to (p.states.length : Int)] = 0 from by simp [allE, orE_self0]; exact hidx.out)
 have hX5d := hX5H.out.at (drewB w5)
 have hc25d := hX5d.b2.cell
 have hc55d := hX5d.b5.cell
 have hl25d := hX5d.load2 rfl
 have hl55d := hX5d.load5 rfl
 have hX5dH := hide hX5d
 have hb05d := hide (hb05.out.trans ((drewB w5).mono hb05.out.size))
 clear hX5d hc25 hc55 hl25 hl55
 refine Reg.cI [0, 1, 0, 7, 0, 16, 0, 127, 255, 511, 1023] [0, 1, 2, 4, 5, 6, 3, 7, 8, 9, 10] ?_
 refine Reg.wI [0, 1, 2, 4, 5, 6] [3, 7, 8, 9, 10] rfl fun Qf hQf => ?_
 go_wp2_with fail
 first | refine hQf _ _ ⟨rfl, ?_⟩ | refine ⟨rfl, ?_⟩
 try clear hQf
 refine Reg.aI 3 [7, 8, 9, 10] [5] rfl fun Qf hQf => ?_
 simp only [gT, gS, gZ]
 go_wp2_with (go_at_call 44; refine (index_any _ _ _).mono ?_; rintro e w' ⟨rfl, rfl⟩)
 first | refine hQf _ _ ⟨Reg.same_below (Below.refl _ _) [5] rfl, ?_⟩ | refine ⟨Reg.same_below (Below.refl _ _) [5] rfl, ?_⟩
 try clear hQf
 refine Reg.aI 7 [8, 9, 10] [] rfl fun Qf hQf => ?_
 simp only [gT, gS, gZ]
 go_wp2_with (go_at_call 44; refine (index_any _ _ _).mono ?_; rintro e w' ⟨rfl, rfl⟩)
 first | refine hQf _ _ ⟨Reg.nm, ?_⟩ | refine ⟨Reg.nm, ?_⟩
 try clear hQf
 obtain ⟨w6, hw6, hb6, hB6, hk6⟩ := box_blk w5.drew #[.int .i64 (idxE r.fr (p.states.length : Int)), .int .i64 (idxE r.to (p.states.length : Int))] 33
 have hS6 := hide (errs_sl (l := [idxE r.fr (p.states.length : Int), idxE r.to (p.states.length : Int)]) hB6 (by simp))
 have hq6 : Below w5.drew.heap.size w5.drew w6 := hb6
 clear hB6 hk6 hb6
 have hX6 := hX5dH.out.at hq6
 have hc26 := hX6.b2.cell
 have hc56 := hX6.b5.cell
 have hl26 := hX6.load2 rfl
 have hl56 := hX6.load5 rfl
 have hX6H := hide hX6
 have hb06 := hide (hb05d.out.trans (hq6.mono hb05d.out.size))
 clear hq6 hX6 hc25d hc55d hl25d hl55d
 refine Reg.wI [8] [9, 10] rfl fun Qf hQf => ?_
 go_wp2_with fail
 first | refine hQf _ _ ⟨rfl, ?_⟩ | refine ⟨rfl, ?_⟩
 try clear hQf
 refine Reg.aI 9 [10] [] rfl fun Qf hQf => ?_
 simp only [gT, gS, gZ]
 go_wp2_with (go_at_call 24; refine (first_any (l := [idxE r.fr (p.states.length : Int), idxE r.to (p.states.length : Int)]) hS6.out).mono ?_; rintro e w' ⟨rfl, rfl⟩; rw [hge6.out])
 first | refine hQf _ _ ⟨Reg.nm, ?_⟩ | refine ⟨Reg.nm, ?_⟩
 try clear hQf
 refine Reg.wI [10] [] rfl fun Qf hQf => ?_
 go_wp2_with fail
 first | refine hQf _ _ ⟨rfl, ?_⟩ | refine ⟨rfl, ?_⟩
 try clear hQf
 first | refine Reg.restI_end ?_ | skip
 go_wp2_with fail
 have hgez := hide (show allE id [setE r.left (p.states.length : Int), setE r.right (p.states.length : Int), setE r.parent (p.states.length : Int), whenE true 1] = kindP p.topo (p.states.length : Int) (p.messages.length : Int) (p.values.length : Int) r from by rw [← hm.out]; simp [allE, orE_self0, kindP, hkdH.out])
 have hX6d := hX6H.out.at (drewB w6)
 have hc26d := hX6d.b2.cell
 have hc56d := hX6d.b5.cell
 have hl26d := hX6d.load2 rfl
 have hl56d := hX6d.load5 rfl
 have hX6dH := hide hX6d
 have hb06d := hide (hb06.out.trans ((drewB w6).mono hb06.out.size))
 clear hX6d hc26 hc56 hl26 hl56
 refine Reg.cI [0, 1, 0, 7, 0, 16, 0, 127, 0, 256, 0, 2047, 0, 8191, 16383, 32767, 65535] [0, 1, 2, 4, 5, 6, 8, 9, 10, 12, 3, 7, 11, 13, 14, 15, 16] ?_
 refine Reg.wI [0, 1, 2, 4, 5, 6, 8, 9, 10, 12] [3, 7, 11, 13, 14, 15, 16] rfl fun Qf hQf => ?_
 go_wp2_with fail
 first | refine hQf _ _ ⟨rfl, ?_⟩ | refine ⟨rfl, ?_⟩
 try clear hQf
 refine Reg.aI 3 [7, 11, 13, 14, 15, 16] [5, 9] rfl fun Qf hQf => ?_
 simp only [gT, gS, gZ]
 go_wp2_with (go_at_call 22; refine Calls.ret (set_any (rule_parts hX6dH.out.ru).2.2.2.2.2.1) ?_; rintro v wa ⟨rfl, hba⟩)
 first | refine hQf _ _ ⟨Reg.same_below (hba) [5, 9] rfl, ?_⟩ | refine ⟨Reg.same_below (hba) [5, 9] rfl, ?_⟩
 try clear hQf
 have hXa := hX6dH.out.at hba
 have hc2a := hXa.b2.cell
 have hc5a := hXa.b5.cell
 have hl2a := hXa.load2 rfl
 have hl5a := hXa.load5 rfl
 have hXaH := hide hXa
 have hb0a := hide (hb06d.out.trans (hba.mono hb06d.out.size))
 clear hba hXa hc26d hc56d hl26d hl56d
 refine Reg.aI 7 [11, 13, 14, 15, 16] [9] rfl fun Qf hQf => ?_
 simp only [gT, gS, gZ]
 go_wp2_with (go_at_call 22; refine Calls.ret (set_any (rule_parts hXaH.out.ru).2.2.2.2.2.2.1) ?_; rintro v wb ⟨rfl, hbb⟩)
 first | refine hQf _ _ ⟨Reg.same_below (hbb) [9] rfl, ?_⟩ | refine ⟨Reg.same_below (hbb) [9] rfl, ?_⟩
 try clear hQf
 have hXb := hXaH.out.at hbb
 have hc2b := hXb.b2.cell
 have hc5b := hXb.b5.cell
 have hl2b := hXb.load2 rfl
 have hl5b := hXb.load5 rfl
 have hXbH := hide hXb
 have hb0b := hide (hb0a.out.trans (hbb.mono hb0a.out.size))
 clear hbb hXb hc2a hc5a hl2a hl5a
 refine Reg.aI 11 [13, 14, 15, 16] [] rfl fun Qf hQf => ?_
 simp only [gT, gS, gZ]
 go_wp2_with (go_at_call 22; refine Calls.ret (set_any (rule_parts hXbH.out.ru).2.2.2.2.2.2.2) ?_; rintro v wc ⟨rfl, hbc⟩)
 first | refine hQf _ _ ⟨Reg.nm, ?_⟩ | refine ⟨Reg.nm, ?_⟩
 try clear hQf
 have hXc := hXbH.out.at hbc
 have hc2c := hXc.b2.cell
 have hc5c := hXc.b5.cell
 have hl2c := hXc.load2 rfl
 have hl5c := hXc.load5 rfl
 have hXcH := hide hXc
 have hb0c := hide (hb0b.out.trans (hbc.mono hb0b.out.size))
 clear hbc hXc hc2b hc5b hl2b hl5b
 refine Reg.aI 13 [14, 15, 16] [] rfl fun Qf hQf => ?_
 simp only [gT, gS, gZ]
 go_wp2_with (go_at_call 25; refine (when_any _ _ _).mono ?_; rintro e w' ⟨rfl, rfl⟩)
 first | refine hQf _ _ ⟨Reg.nm, ?_⟩ | refine ⟨Reg.nm, ?_⟩
 try clear hQf
 obtain ⟨wz, hwz, hbz, hBz, hkz⟩ := box_blk wc #[.int .i64 (setE r.left (p.states.length : Int)), .int .i64 (setE r.right (p.states.length : Int)), .int .i64 (setE r.parent (p.states.length : Int)), .int .i64 (whenE true 1)] 33
 have hSz := hide (errs_sl (l := [setE r.left (p.states.length : Int), setE r.right (p.states.length : Int), setE r.parent (p.states.length : Int), whenE true 1]) hBz (by simp))
 have hqz := hbz
 clear hBz hkz hbz
 have hXz := hXcH.out.at hqz
 have hc2z := hXz.b2.cell
 have hc5z := hXz.b5.cell
 have hl2z := hXz.load2 rfl
 have hl5z := hXz.load5 rfl
 have hXzH := hide hXz
 have hb0z := hide (hb0c.out.trans (hqz.mono hb0c.out.size))
 clear hqz hXz hc2c hc5c hl2c hl5c
 refine Reg.wI [14] [15, 16] rfl fun Qf hQf => ?_
 go_wp2_with fail
 first | refine hQf _ _ ⟨rfl, ?_⟩ | refine ⟨rfl, ?_⟩
 try clear hQf
 refine Reg.aI 15 [16] [] rfl fun Qf hQf => ?_
 simp only [gT, gS, gZ]
 go_wp2_with (go_at_call 24; refine (first_any (l := [setE r.left (p.states.length : Int), setE r.right (p.states.length : Int), setE r.parent (p.states.length : Int), whenE true 1]) hSz.out).mono ?_; rintro e w' ⟨rfl, rfl⟩; rw [hgez.out])
 first | refine hQf _ _ ⟨Reg.nm, ?_⟩ | refine ⟨Reg.nm, ?_⟩
 try clear hQf
 refine Reg.wI [16] [] rfl fun Qf hQf => ?_
 go_wp2_with fail
 first | refine hQf _ _ ⟨rfl, ?_⟩ | refine ⟨rfl, ?_⟩
 try clear hQf
 first | refine Reg.restI_end ?_ | skip
 go_wp2_with fail
 go_ret
 exact ⟨rfl, hb0z.out⟩
theorem re_k45 {w : World} {cs : List Value} {p : ProtD} {r : RuleD} {i : Nat} (h : ProtIs w w.heap.size cs p) (hr : p.rules[i]? = some r) (hs : r.Small) (hnm : r.name.size ≤ 9223372036854775807) (hT : SpOK w) (hok : Hid (nameOK r.name = true)) (htk : Hid (((p.rules.take i).any fun x => decide (x.name = r.name)) = false)) (hfit : Hid (fitsP r.kind p.topo = true)) (hsur : Hid (surplusP p.topo r = false)) (hidx : Hid (orE (idxE r.fr (p.states.length : Int)) (idxE r.to (p.states.length : Int)) = 0)) (hkd : r.kind = 4) (ha : ¬ r.at_ < 0) (hb : ¬ 2 < r.at_) (hc : ¬ r.at_ = 0) (ht : ¬ p.topo = 3) :
  Calls Tryd.prog 40 #[.agg cs.toArray, .int .i64 (i : Int)] w (Ret fun v w' => v = .int .i64 (kindP p.topo (p.states.length : Int) (p.messages.length : Int) (p.values.length : Int) r) ∧ Below w.heap.size w w') := by
 obtain ⟨A1, c1, A2, c2, A3, c3, A4, c4, A5, c5, A6, c6, A7, c7, E1, f1, E2, f2, E3, f3, E4, f4, E5, f5, E6, f6, E7, f7, E8, f8, b, off, w1, w2, hn7, hcap, hil, rfl, rfl, hw1, hc21, hlc, hsc, hX2, hrows2, hcnH, hlt5, hb02, htlH, hbk⟩ := re_head h hr hT
 replace hrows2 := hide hrows2
 replace hcnH := hide hcnH
 replace hb02 := hide hb02
 replace htlH := hide htlH
 have hX2H := hide hX2
 have hc22 := hX2.b2.cell
 have hc52 := hX2.b5.cell
 have hl22 := hX2.load2 rfl
 have hl52 := hX2.load5 rfl
 clear hX2 hT h
 have hcf := hide (containsFunc_any (c := c7) hrows2.out hcnH.out hlt5)
 rw [htlH.out] at hcf
 go_enter Tryd.func40, Tryd.ntmps40
 have hm := hide (show (decide (r.at_ < 0) || decide (2 < r.at_) || (!decide (r.at_ = 0) && decide (p.topo = 3))) = (decide (r.at_ < 0) || decide (2 < r.at_)) from by simp [ha, hb, hc, ht])
 have e1 : (r.kind == 1) = false := by simp [hkd]
 have e2 : (r.kind == 2) = false := by simp [hkd]
 have e3 : (r.kind == 3) = false := by simp [hkd]
 have e4 : (r.kind == 4) = true := by simp [hkd]
 have hkdH := hide hkd
 clear hkd
 have ec : (r.at_ != 0) = true := by simp [hc]
 have et : (p.topo == 3) = false := by simp [ht]
 go_wp2_with (first
  | (go_at_call 62; refine Calls.ret hcf.out ?_; rintro v w3 ⟨rfl, hb3⟩; rw [htk.out]; have hX3 := hX2H.out.at hb3; have hc23 := hX3.b2.cell; have hc53 := hX3.b5.cell; have hl23 := hX3.load2 rfl; have hl53 := hX3.load5 rfl; have hX3H := hide hX3; have hb03 := hide (hb02.out.trans (hb3.mono hb02.out.size)); clear hb3 hX3 hc22 hc52 hl22 hl52)
  | (go_at_call 21; refine Calls.ret (validName_any r.name w3 hnm hX3H.out.tab) ?_; rintro v w4 ⟨rfl, hb4⟩; rw [hok.out]; have hX4 := hX3H.out.at hb4; have hc24 := hX4.b2.cell; have hc54 := hX4.b5.cell; have hl24 := hX4.load2 rfl; have hl54 := hX4.load5 rfl; have hX4H := hide hX4; have hb04 := hide (hb03.out.trans (hb4.mono hb03.out.size)); clear hb4 hX4 hc23 hc53 hl23 hl53)
  | (go_at_call 64; refine (fits_any _ _ _).mono ?_; rintro e w' ⟨rfl, rfl⟩; rw [hfit.out])
  | (go_at_call 65; refine Calls.ret (surplus_any hX4H.out.ru hs) ?_; rintro v w5 ⟨rfl, hb5⟩; rw [hsur.out]; have hX5 := hX4H.out.at hb5; have hc25 := hX5.b2.cell; have hc55 := hX5.b5.cell; have hl25 := hX5.load2 rfl; have hl55 := hX5.load5 rfl; have hX5H := hide hX5; have hb05 := hide (hb04.out.trans (hb5.mono hb04.out.size)); clear hb5 hX5 hc24 hc54 hl24 hl54))
 have hge6 := hide (show allE id [idxE r.fr (p.states.length : Int), idxE r.to (p.states.length : Int)] = 0 from by simp [allE, orE_self0]; exact hidx.out)
 have hX5d := hX5H.out.at (drewB w5)
 have hc25d := hX5d.b2.cell
 have hc55d := hX5d.b5.cell
 have hl25d := hX5d.load2 rfl
 have hl55d := hX5d.load5 rfl
 have hX5dH := hide hX5d
 have hb05d := hide (hb05.out.trans ((drewB w5).mono hb05.out.size))
 clear hX5d hc25 hc55 hl25 hl55
 refine Reg.cI [0, 1, 0, 7, 0, 16, 0, 127, 255, 511, 1023] [0, 1, 2, 4, 5, 6, 3, 7, 8, 9, 10] ?_
 refine Reg.wI [0, 1, 2, 4, 5, 6] [3, 7, 8, 9, 10] rfl fun Qf hQf => ?_
 go_wp2_with fail
 first | refine hQf _ _ ⟨rfl, ?_⟩ | refine ⟨rfl, ?_⟩
 try clear hQf
 refine Reg.aI 3 [7, 8, 9, 10] [5] rfl fun Qf hQf => ?_
 simp only [gT, gS, gZ]
 go_wp2_with (go_at_call 44; refine (index_any _ _ _).mono ?_; rintro e w' ⟨rfl, rfl⟩)
 first | refine hQf _ _ ⟨Reg.same_below (Below.refl _ _) [5] rfl, ?_⟩ | refine ⟨Reg.same_below (Below.refl _ _) [5] rfl, ?_⟩
 try clear hQf
 refine Reg.aI 7 [8, 9, 10] [] rfl fun Qf hQf => ?_
 simp only [gT, gS, gZ]
 go_wp2_with (go_at_call 44; refine (index_any _ _ _).mono ?_; rintro e w' ⟨rfl, rfl⟩)
 first | refine hQf _ _ ⟨Reg.nm, ?_⟩ | refine ⟨Reg.nm, ?_⟩
 try clear hQf
 obtain ⟨w6, hw6, hb6, hB6, hk6⟩ := box_blk w5.drew #[.int .i64 (idxE r.fr (p.states.length : Int)), .int .i64 (idxE r.to (p.states.length : Int))] 33
 have hS6 := hide (errs_sl (l := [idxE r.fr (p.states.length : Int), idxE r.to (p.states.length : Int)]) hB6 (by simp))
 have hq6 : Below w5.drew.heap.size w5.drew w6 := hb6
 clear hB6 hk6 hb6
 have hX6 := hX5dH.out.at hq6
 have hc26 := hX6.b2.cell
 have hc56 := hX6.b5.cell
 have hl26 := hX6.load2 rfl
 have hl56 := hX6.load5 rfl
 have hX6H := hide hX6
 have hb06 := hide (hb05d.out.trans (hq6.mono hb05d.out.size))
 clear hq6 hX6 hc25d hc55d hl25d hl55d
 refine Reg.wI [8] [9, 10] rfl fun Qf hQf => ?_
 go_wp2_with fail
 first | refine hQf _ _ ⟨rfl, ?_⟩ | refine ⟨rfl, ?_⟩
 try clear hQf
 refine Reg.aI 9 [10] [] rfl fun Qf hQf => ?_
 simp only [gT, gS, gZ]
 go_wp2_with (go_at_call 24; refine (first_any (l := [idxE r.fr (p.states.length : Int), idxE r.to (p.states.length : Int)]) hS6.out).mono ?_; rintro e w' ⟨rfl, rfl⟩; rw [hge6.out])
 first | refine hQf _ _ ⟨Reg.nm, ?_⟩ | refine ⟨Reg.nm, ?_⟩
 try clear hQf
 refine Reg.wI [10] [] rfl fun Qf hQf => ?_
 go_wp2_with fail
 first | refine hQf _ _ ⟨rfl, ?_⟩ | refine ⟨rfl, ?_⟩
 try clear hQf
 first | refine Reg.restI_end ?_ | skip
 go_wp2_with fail
 have hgez := hide (show allE id [setE r.left (p.states.length : Int), setE r.right (p.states.length : Int), setE r.parent (p.states.length : Int), whenE (decide (r.at_ < 0) || decide (2 < r.at_)) 1] = kindP p.topo (p.states.length : Int) (p.messages.length : Int) (p.values.length : Int) r from by rw [← hm.out]; simp [allE, orE_self0, kindP, hkdH.out])
 have hX6d := hX6H.out.at (drewB w6)
 have hc26d := hX6d.b2.cell
 have hc56d := hX6d.b5.cell
 have hl26d := hX6d.load2 rfl
 have hl56d := hX6d.load5 rfl
 have hX6dH := hide hX6d
 have hb06d := hide (hb06.out.trans ((drewB w6).mono hb06.out.size))
 clear hX6d hc26 hc56 hl26 hl56
 refine Reg.cI [0, 1, 0, 7, 0, 16, 0, 127, 0, 256, 0, 2047, 0, 8191, 16383, 32767, 65535] [0, 1, 2, 4, 5, 6, 8, 9, 10, 12, 3, 7, 11, 13, 14, 15, 16] ?_
 refine Reg.wI [0, 1, 2, 4, 5, 6, 8, 9, 10, 12] [3, 7, 11, 13, 14, 15, 16] rfl fun Qf hQf => ?_
 go_wp2_with fail
 first | refine hQf _ _ ⟨rfl, ?_⟩ | refine ⟨rfl, ?_⟩
 try clear hQf
 refine Reg.aI 3 [7, 11, 13, 14, 15, 16] [5, 9] rfl fun Qf hQf => ?_
 simp only [gT, gS, gZ]
 go_wp2_with (go_at_call 22; refine Calls.ret (set_any (rule_parts hX6dH.out.ru).2.2.2.2.2.1) ?_; rintro v wa ⟨rfl, hba⟩)
 first | refine hQf _ _ ⟨Reg.same_below (hba) [5, 9] rfl, ?_⟩ | refine ⟨Reg.same_below (hba) [5, 9] rfl, ?_⟩
 try clear hQf
 have hXa := hX6dH.out.at hba
 have hc2a := hXa.b2.cell
 have hc5a := hXa.b5.cell
 have hl2a := hXa.load2 rfl
 have hl5a := hXa.load5 rfl
 have hXaH := hide hXa
 have hb0a := hide (hb06d.out.trans (hba.mono hb06d.out.size))
 clear hba hXa hc26d hc56d hl26d hl56d
 refine Reg.aI 7 [11, 13, 14, 15, 16] [9] rfl fun Qf hQf => ?_
 simp only [gT, gS, gZ]
 go_wp2_with (go_at_call 22; refine Calls.ret (set_any (rule_parts hXaH.out.ru).2.2.2.2.2.2.1) ?_; rintro v wb ⟨rfl, hbb⟩)
 first | refine hQf _ _ ⟨Reg.same_below (hbb) [9] rfl, ?_⟩ | refine ⟨Reg.same_below (hbb) [9] rfl, ?_⟩
 try clear hQf
 have hXb := hXaH.out.at hbb
 have hc2b := hXb.b2.cell
 have hc5b := hXb.b5.cell
 have hl2b := hXb.load2 rfl
 have hl5b := hXb.load5 rfl
 have hXbH := hide hXb
 have hb0b := hide (hb0a.out.trans (hbb.mono hb0a.out.size))
 clear hbb hXb hc2a hc5a hl2a hl5a
 refine Reg.aI 11 [13, 14, 15, 16] [] rfl fun Qf hQf => ?_
 simp only [gT, gS, gZ]
 go_wp2_with (go_at_call 22; refine Calls.ret (set_any (rule_parts hXbH.out.ru).2.2.2.2.2.2.2) ?_; rintro v wc ⟨rfl, hbc⟩)
 first | refine hQf _ _ ⟨Reg.nm, ?_⟩ | refine ⟨Reg.nm, ?_⟩
 try clear hQf
 have hXc := hXbH.out.at hbc
 have hc2c := hXc.b2.cell
 have hc5c := hXc.b5.cell
 have hl2c := hXc.load2 rfl
 have hl5c := hXc.load5 rfl
 have hXcH := hide hXc
 have hb0c := hide (hb0b.out.trans (hbc.mono hb0b.out.size))
 clear hbc hXc hc2b hc5b hl2b hl5b
 refine Reg.aI 13 [14, 15, 16] [] rfl fun Qf hQf => ?_
 simp only [gT, gS, gZ]
 go_wp2_with (go_at_call 25; refine (when_any _ _ _).mono ?_; rintro e w' ⟨rfl, rfl⟩)
 first | refine hQf _ _ ⟨Reg.nm, ?_⟩ | refine ⟨Reg.nm, ?_⟩
 try clear hQf
 obtain ⟨wz, hwz, hbz, hBz, hkz⟩ := box_blk wc #[.int .i64 (setE r.left (p.states.length : Int)), .int .i64 (setE r.right (p.states.length : Int)), .int .i64 (setE r.parent (p.states.length : Int)), .int .i64 (whenE (decide (r.at_ < 0) || decide (2 < r.at_)) 1)] 33
 have hSz := hide (errs_sl (l := [setE r.left (p.states.length : Int), setE r.right (p.states.length : Int), setE r.parent (p.states.length : Int), whenE (decide (r.at_ < 0) || decide (2 < r.at_)) 1]) hBz (by simp))
 have hqz := hbz
 clear hBz hkz hbz
 have hXz := hXcH.out.at hqz
 have hc2z := hXz.b2.cell
 have hc5z := hXz.b5.cell
 have hl2z := hXz.load2 rfl
 have hl5z := hXz.load5 rfl
 have hXzH := hide hXz
 have hb0z := hide (hb0c.out.trans (hqz.mono hb0c.out.size))
 clear hqz hXz hc2c hc5c hl2c hl5c
 refine Reg.wI [14] [15, 16] rfl fun Qf hQf => ?_
 go_wp2_with fail
 first | refine hQf _ _ ⟨rfl, ?_⟩ | refine ⟨rfl, ?_⟩
 try clear hQf
 refine Reg.aI 15 [16] [] rfl fun Qf hQf => ?_
 simp only [gT, gS, gZ]
 go_wp2_with (go_at_call 24; refine (first_any (l := [setE r.left (p.states.length : Int), setE r.right (p.states.length : Int), setE r.parent (p.states.length : Int), whenE (decide (r.at_ < 0) || decide (2 < r.at_)) 1]) hSz.out).mono ?_; rintro e w' ⟨rfl, rfl⟩; rw [hgez.out])
 first | refine hQf _ _ ⟨Reg.nm, ?_⟩ | refine ⟨Reg.nm, ?_⟩
 try clear hQf
 refine Reg.wI [16] [] rfl fun Qf hQf => ?_
 go_wp2_with fail
 first | refine hQf _ _ ⟨rfl, ?_⟩ | refine ⟨rfl, ?_⟩
 try clear hQf
 first | refine Reg.restI_end ?_ | skip
 go_wp2_with fail
 go_ret
 exact ⟨rfl, hb0z.out⟩
end Go.Proofs.YtbjdgepfhhafjaaDoor
