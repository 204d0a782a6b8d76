/-
  Part XH of a proof.
-/
import Derived.Test.YtbjdgepfhhafjaaDoorXA
import Derived.Test.YtbjdgepfhhafjaaDoorXG
set_option maxHeartbeats 16000000
set_option maxRecDepth 100000
set_option linter.unusedVariables false
set_option linter.unusedSimpArgs false
namespace Go.Proofs.YtbjdgepfhhafjaaDoor
open Go.RowKit
attribute [-go_sem] loadCellsFrom storeCells
theorem re_k1 {w : World} {cs : List Value} {p : ProtD} {r : RuleD} {i : Nat} (h : ProtIs w w.heap.size cs p) (hr : p.rules[i]? = some r) (hs : r.Small) (hnm : r.name.size ≤ 9223372036854775807) (hT : SpOK w) (hok : Hid (nameOK r.name = true)) (htk : Hid (((p.rules.take i).any fun x => decide (x.name = r.name)) = false)) (hfit : Hid (fitsP r.kind p.topo = true)) (hsur : Hid (surplusP p.topo r = false)) (hidx : Hid (orE (idxE r.fr (p.states.length : Int)) (idxE r.to (p.states.length : Int)) = 0)) (hkd : r.kind = 1) :
  Calls Tryd.prog 40 #[.agg cs.toArray, .int .i64 (i : Int)] w (Ret fun v w' => v = .int .i64 (kindP p.topo (p.states.length : Int) (p.messages.length : Int) (p.values.length : Int) r) ∧ Below w.heap.size w w') := by
 obtain ⟨A1, c1, A2, c2, A3, c3, A4, c4, A5, c5, A6, c6, A7, c7, E1, f1, E2, f2, E3, f3, E4, f4, E5, f5, E6, f6, E7, f7, E8, f8, b, off, w1, w2, hn7, hcap, hil, rfl, rfl, hw1, hc21, hlc, hsc, hX2, hrows2, hcnH, hlt5, hb02, htlH, hbk⟩ := re_head h hr hT
 replace hrows2 := hide hrows2
 replace hcnH := hide hcnH
 replace hb02 := hide hb02
 replace htlH := hide htlH
 have hX2H := hide hX2
 have hc22 := hX2.b2.cell
 have hc52 := hX2.b5.cell
 have hl22 := hX2.load2 rfl
 have hl52 := hX2.load5 rfl
 clear hX2 hT h
 have hcf := hide (containsFunc_any (c := c7) hrows2.out hcnH.out hlt5)
 rw [htlH.out] at hcf
 go_enter Tryd.func40, Tryd.ntmps40
 have e1 : (r.kind == 1) = true := by simp [hkd]
 have hkdH := hide hkd
 clear hkd
 go_wp2_with (first
  | (go_at_call 62; refine Calls.ret hcf.out ?_; rintro v w3 ⟨rfl, hb3⟩; rw [htk.out]; have hX3 := hX2H.out.at hb3; have hc23 := hX3.b2.cell; have hc53 := hX3.b5.cell; have hl23 := hX3.load2 rfl; have hl53 := hX3.load5 rfl; have hX3H := hide hX3; have hb03 := hide (hb02.out.trans (hb3.mono hb02.out.size)); clear hb3 hX3 hc22 hc52 hl22 hl52)
  | (go_at_call 21; refine Calls.ret (validName_any r.name w3 hnm hX3H.out.tab) ?_; rintro v w4 ⟨rfl, hb4⟩; rw [hok.out]; have hX4 := hX3H.out.at hb4; have hc24 := hX4.b2.cell; have hc54 := hX4.b5.cell; have hl24 := hX4.load2 rfl; have hl54 := hX4.load5 rfl; have hX4H := hide hX4; have hb04 := hide (hb03.out.trans (hb4.mono hb03.out.size)); clear hb4 hX4 hc23 hc53 hl23 hl53)
  | (go_at_call 64; refine (fits_any _ _ _).mono ?_; rintro e w' ⟨rfl, rfl⟩; rw [hfit.out])
  | (go_at_call 65; refine Calls.ret (surplus_any hX4H.out.ru hs) ?_; rintro v w5 ⟨rfl, hb5⟩; rw [hsur.out]; have hX5 := hX4H.out.at hb5; have hc25 := hX5.b2.cell; have hc55 := hX5.b5.cell; have hl25 := hX5.load2 rfl; have hl55 := hX5.load5 rfl; have hX5H := hide hX5; have hb05 := hide (hb04.out.trans (hb5.mono hb04.out.size)); clear hb5 hX5 hc24 hc54 hl24 hl54))
 have hge6 := hide (show allE id [idxE r.fr (p.states.length : Int), idxE r.to (p.states.length : Int)] = 0 from by simp [allE, orE_self0]; exact hidx.out)
 have hX5d := hX5H.out.at (drewB w5)
 have hc25d := hX5d.b2.cell
 have hc55d := hX5d.b5.cell
 have hl25d := hX5d.load2 rfl
 have hl55d := hX5d.load5 rfl
 have hX5dH := hide hX5d
 have hb05d := hide (hb05.out.trans ((drewB w5).mono hb05.out.size))
 clear hX5d hc25 hc55 hl25 hl55
 refine Reg.cI [0, 1, 0, 7, 0, 16, 0, 127, 255, 511, 1023] [0, 1, 2, 4, 5, 6, 3, 7, 8, 9, 10] ?_
 refine Reg.wI [0, 1, 2, 4, 5, 6] [3, 7, 8, 9, 10] rfl fun Qf hQf => ?_
 go_wp2_with fail
 first | refine hQf _ _ ⟨rfl, ?_⟩ | refine ⟨rfl, ?_⟩
 try clear hQf
 refine Reg.aI 3 [7, 8, 9, 10] [5] rfl fun Qf hQf => ?_
 simp only [gT, gS, gZ]
 go_wp2_with (go_at_call 44; refine (index_any _ _ _).mono ?_; rintro e w' ⟨rfl, rfl⟩)
 first | refine hQf _ _ ⟨Reg.same_below (Below.refl _ _) [5] rfl, ?_⟩ | refine ⟨Reg.same_below (Below.refl _ _) [5] rfl, ?_⟩
 try clear hQf
 refine Reg.aI 7 [8, 9, 10] [] rfl fun Qf hQf => ?_
 simp only [gT, gS, gZ]
 go_wp2_with (go_at_call 44; refine (index_any _ _ _).mono ?_; rintro e w' ⟨rfl, rfl⟩)
 first | refine hQf _ _ ⟨Reg.nm, ?_⟩ | refine ⟨Reg.nm, ?_⟩
 try clear hQf
 obtain ⟨w6, hw6, hb6, hB6, hk6⟩ := box_blk w5.drew #[.int .i64 (idxE r.fr (p.states.length : Int)), .int .i64 (idxE r.to (p.states.length : Int))] 33
 have hS6 := hide (errs_sl (l := [idxE r.fr (p.states.length : Int), idxE r.to (p.states.length : Int)]) hB6 (by simp))
 have hq6 : Below w5.drew.heap.size w5.drew w6 := hb6
 clear hB6 hk6 hb6
 have hX6 := hX5dH.out.at hq6
 have hc26 := hX6.b2.cell
 have hc56 := hX6.b5.cell
 have hl26 := hX6.load2 rfl
 have hl56 := hX6.load5 rfl
 have hX6H := hide hX6
 have hb06 := hide (hb05d.out.trans (hq6.mono hb05d.out.size))
 clear hq6 hX6 hc25d hc55d hl25d hl55d
 refine Reg.wI [8] [9, 10] rfl fun Qf hQf => ?_
 go_wp2_with fail
 first | refine hQf _ _ ⟨rfl, ?_⟩ | refine ⟨rfl, ?_⟩
 try clear hQf
 refine Reg.aI 9 [10] [] rfl fun Qf hQf => ?_
 simp only [gT, gS, gZ]
 go_wp2_with (go_at_call 24; refine (first_any (l := [idxE r.fr (p.states.length : Int), idxE r.to (p.states.length : Int)]) hS6.out).mono ?_; rintro e w' ⟨rfl, rfl⟩; rw [hge6.out])
 first | refine hQf _ _ ⟨Reg.nm, ?_⟩ | refine ⟨Reg.nm, ?_⟩
 try clear hQf
 refine Reg.wI [10] [] rfl fun Qf hQf => ?_
 go_wp2_with fail
 first | refine hQf _ _ ⟨rfl, ?_⟩ | refine ⟨rfl, ?_⟩
 try clear hQf
 first | refine Reg.restI_end ?_ | skip
 go_wp2_with fail
 have hgez := hide (show allE id [guardsP (p.messages.length : Int) r.guards, setE r.ex (p.states.length : Int), setE r.fa (p.states.length : Int), valE r.rd (p.values.length : Int), valE r.wr (p.values.length : Int), setE r.send (p.messages.length : Int)] = kindP p.topo (p.states.length : Int) (p.messages.length : Int) (p.values.length : Int) r from by simp [allE, orE_self0, kindP, hkdH.out])
 have hX6d := hX6H.out.at (drewB w6)
 have hc26d := hX6d.b2.cell
 have hc56d := hX6d.b5.cell
 have hl26d := hX6d.load2 rfl
 have hl56d := hX6d.load5 rfl
 have hX6dH := hide hX6d
 have hb06d := hide (hb06.out.trans ((drewB w6).mono hb06.out.size))
 clear hX6d hc26 hc56 hl26 hl56
 refine Reg.cI [0, 0, 2, 7, 0, 16, 0, 127, 0, 256, 0, 2047, 0, 0, 8192, 32767, 0, 0, 131072, 524287, 0, 1048576, 0, 4194304, 12582912, 33554431, 67108863, 134217727, 268435455] [0, 1, 2, 4, 5, 6, 8, 9, 10, 12, 13, 14, 16, 17, 18, 20, 21, 22, 23, 24, 3, 7, 11, 15, 19, 25, 26, 27, 28] ?_
 refine Reg.wI [0, 1, 2, 4, 5, 6, 8, 9, 10, 12, 13, 14, 16, 17, 18, 20, 21, 22, 23, 24] [3, 7, 11, 15, 19, 25, 26, 27, 28] rfl fun Qf hQf => ?_
 go_wp2_with fail
 first | refine hQf _ _ ⟨rfl, ?_⟩ | refine ⟨rfl, ?_⟩
 try clear hQf
 refine Reg.aI 3 [7, 11, 15, 19, 25, 26, 27, 28] [5, 9, 12, 14, 16, 18, 21, 23] rfl fun Qf hQf => ?_
 simp only [gT, gS, gZ]
 go_wp2_with (go_at_call 66; refine Calls.ret (guards_any hX6dH.out.pr (rule_parts hX6dH.out.ru).2.1) ?_; rintro v w7 ⟨rfl, hb7⟩)
 first | refine hQf _ _ ⟨Reg.same_below (hb7) [5, 9, 12, 14, 16, 18, 21, 23] rfl, ?_⟩ | refine ⟨Reg.same_below (hb7) [5, 9, 12, 14, 16, 18, 21, 23] rfl, ?_⟩
 try clear hQf
 have hX7 := hX6dH.out.at hb7
 have hc27 := hX7.b2.cell
 have hc57 := hX7.b5.cell
 have hl27 := hX7.load2 rfl
 have hl57 := hX7.load5 rfl
 have hX7H := hide hX7
 have hb07 := hide (hb06d.out.trans (hb7.mono hb06d.out.size))
 clear hb7 hX7 hc26d hc56d hl26d hl56d
 refine Reg.aI 7 [11, 15, 19, 25, 26, 27, 28] [9, 12, 14, 16, 18, 21, 23] rfl fun Qf hQf => ?_
 simp only [gT, gS, gZ]
 go_wp2_with (go_at_call 22; refine Calls.ret (set_any (rule_parts hX7H.out.ru).2.2.1) ?_; rintro v w8 ⟨rfl, hb8⟩)
 first | refine hQf _ _ ⟨Reg.same_below (hb8) [9, 12, 14, 16, 18, 21, 23] rfl, ?_⟩ | refine ⟨Reg.same_below (hb8) [9, 12, 14, 16, 18, 21, 23] rfl, ?_⟩
 try clear hQf
 have hX8 := hX7H.out.at hb8
 have hc28 := hX8.b2.cell
 have hc58 := hX8.b5.cell
 have hl28 := hX8.load2 rfl
 have hl58 := hX8.load5 rfl
 have hX8H := hide hX8
 have hb08 := hide (hb07.out.trans (hb8.mono hb07.out.size))
 clear hb8 hX8 hc27 hc57 hl27 hl57
 refine Reg.aI 11 [15, 19, 25, 26, 27, 28] [12, 14, 16, 18, 21, 23] rfl fun Qf hQf => ?_
 simp only [gT, gS, gZ]
 go_wp2_with (go_at_call 22; refine Calls.ret (set_any (rule_parts hX8H.out.ru).2.2.2.1) ?_; rintro v w9 ⟨rfl, hb9⟩)
 first | refine hQf _ _ ⟨Reg.same_below (hb9) [12, 14, 16, 18, 21, 23] rfl, ?_⟩ | refine ⟨Reg.same_below (hb9) [12, 14, 16, 18, 21, 23] rfl, ?_⟩
 try clear hQf
 have hX9 := hX8H.out.at hb9
 have hc29 := hX9.b2.cell
 have hc59 := hX9.b5.cell
 have hl29 := hX9.load2 rfl
 have hl59 := hX9.load5 rfl
 have hX9H := hide hX9
 have hb09 := hide (hb08.out.trans (hb9.mono hb08.out.size))
 clear hb9 hX9 hc28 hc58 hl28 hl58
 refine Reg.aI 15 [19, 25, 26, 27, 28] [16, 18, 21, 23] rfl fun Qf hQf => ?_
 simp only [gT, gS, gZ]
 go_wp2_with (go_at_call 67; refine Calls.ret (value_any hX9H.out.pr) ?_; rintro v wa ⟨rfl, hba⟩)
 first | refine hQf _ _ ⟨Reg.same_below (hba) [16, 18, 21, 23] rfl, ?_⟩ | refine ⟨Reg.same_below (hba) [16, 18, 21, 23] rfl, ?_⟩
 try clear hQf
 have hXa := hX9H.out.at hba
 have hc2a := hXa.b2.cell
 have hc5a := hXa.b5.cell
 have hl2a := hXa.load2 rfl
 have hl5a := hXa.load5 rfl
 have hXaH := hide hXa
 have hb0a := hide (hb09.out.trans (hba.mono hb09.out.size))
 clear hba hXa hc29 hc59 hl29 hl59
 refine Reg.aI 19 [25, 26, 27, 28] [21, 23] rfl fun Qf hQf => ?_
 simp only [gT, gS, gZ]
 go_wp2_with (go_at_call 67; refine Calls.ret (value_any hXaH.out.pr) ?_; rintro v wb ⟨rfl, hbb⟩)
 first | refine hQf _ _ ⟨Reg.same_below (hbb) [21, 23] rfl, ?_⟩ | refine ⟨Reg.same_below (hbb) [21, 23] rfl, ?_⟩
 try clear hQf
 have hXb := hXaH.out.at hbb
 have hc2b := hXb.b2.cell
 have hc5b := hXb.b5.cell
 have hl2b := hXb.load2 rfl
 have hl5b := hXb.load5 rfl
 have hXbH := hide hXb
 have hb0b := hide (hb0a.out.trans (hbb.mono hb0a.out.size))
 clear hbb hXb hc2a hc5a hl2a hl5a
 refine Reg.aI 25 [26, 27, 28] [] rfl fun Qf hQf => ?_
 simp only [gT, gS, gZ]
 go_wp2_with (go_at_call 22; refine Calls.ret (set_any (rule_parts hXbH.out.ru).2.2.2.2.1) ?_; rintro v wc ⟨rfl, hbc⟩)
 first | refine hQf _ _ ⟨Reg.nm, ?_⟩ | refine ⟨Reg.nm, ?_⟩
 try clear hQf
 have hXc := hXbH.out.at hbc
 have hc2c := hXc.b2.cell
 have hc5c := hXc.b5.cell
 have hl2c := hXc.load2 rfl
 have hl5c := hXc.load5 rfl
 have hXcH := hide hXc
 have hb0c := hide (hb0b.out.trans (hbc.mono hb0b.out.size))
 clear hbc hXc hc2b hc5b hl2b hl5b
 obtain ⟨wz, hwz, hbz, hBz, hkz⟩ := box_blk wc #[.int .i64 (guardsP (p.messages.length : Int) r.guards), .int .i64 (setE r.ex (p.states.length : Int)), .int .i64 (setE r.fa (p.states.length : Int)), .int .i64 (valE r.rd (p.values.length : Int)), .int .i64 (valE r.wr (p.values.length : Int)), .int .i64 (setE r.send (p.messages.length : Int))] 33
 have hSz := hide (errs_sl (l := [guardsP (p.messages.length : Int) r.guards, setE r.ex (p.states.length : Int), setE r.fa (p.states.length : Int), valE r.rd (p.values.length : Int), valE r.wr (p.values.length : Int), setE r.send (p.messages.length : Int)]) hBz (by simp))
 have hqz := hbz
 clear hBz hkz hbz
 have hXz := hXcH.out.at hqz
 have hc2z := hXz.b2.cell
 have hc5z := hXz.b5.cell
 have hl2z := hXz.load2 rfl
 have hl5z := hXz.load5 rfl
 have hXzH := hide hXz
 have hb0z := hide (hb0c.out.trans (hqz.mono hb0c.out.size))
 clear hqz hXz hc2c hc5c hl2c hl5c
 refine Reg.wI [26] [27, 28] rfl fun Qf hQf => ?_
 go_wp2_with fail
 first | refine hQf _ _ ⟨rfl, ?_⟩ | refine ⟨rfl, ?_⟩
 try clear hQf
 refine Reg.aI 27 [28] [] rfl fun Qf hQf => ?_
 simp only [gT, gS, gZ]
 go_wp2_with (go_at_call 24; refine (first_any (l := [guardsP (p.messages.length : Int) r.guards, setE r.ex (p.states.length : Int), setE r.fa (p.states.length : Int), valE r.rd (p.values.length : Int), valE r.wr (p.values.length : Int), setE r.send (p.messages.length : Int)]) hSz.out).mono ?_; rintro e w' ⟨rfl, rfl⟩; rw [hgez.out])
 first | refine hQf _ _ ⟨Reg.nm, ?_⟩ | refine ⟨Reg.nm, ?_⟩
 try clear hQf
 refine Reg.wI [28] [] rfl fun Qf hQf => ?_
 go_wp2_with fail
 first | refine hQf _ _ ⟨rfl, ?_⟩ | refine ⟨rfl, ?_⟩
 try clear hQf
 first | refine Reg.restI_end ?_ | skip
 go_wp2_with fail
 go_ret
 exact ⟨rfl, hb0z.out⟩
theorem re_k2 {w : World} {cs : List Value} {p : ProtD} {r : RuleD} {i : Nat} (h : ProtIs w w.heap.size cs p) (hr : p.rules[i]? = some r) (hs : r.Small) (hnm : r.name.size ≤ 9223372036854775807) (hT : SpOK w) (hok : Hid (nameOK r.name = true)) (htk : Hid (((p.rules.take i).any fun x => decide (x.name = r.name)) = false)) (hfit : Hid (fitsP r.kind p.topo = true)) (hsur : Hid (surplusP p.topo r = false)) (hidx : Hid (orE (idxE r.fr (p.states.length : Int)) (idxE r.to (p.states.length : Int)) = 0)) (hkd : r.kind = 2) :
  Calls Tryd.prog 40 #[.agg cs.toArray, .int .i64 (i : Int)] w (Ret fun v w' => v = .int .i64 (kindP p.topo (p.states.length : Int) (p.messages.length : Int) (p.values.length : Int) r) ∧ Below w.heap.size w w') := by
 obtain ⟨A1, c1, A2, c2, A3, c3, A4, c4, A5, c5, A6, c6, A7, c7, E1, f1, E2, f2, E3, f3, E4, f4, E5, f5, E6, f6, E7, f7, E8, f8, b, off, w1, w2, hn7, hcap, hil, rfl, rfl, hw1, hc21, hlc, hsc, hX2, hrows2, hcnH, hlt5, hb02, htlH, hbk⟩ := re_head h hr hT
 replace hrows2 := hide hrows2
 replace hcnH := hide hcnH
 replace hb02 := hide hb02
 replace htlH := hide htlH
 have hX2H := hide hX2
 have hc22 := hX2.b2.cell
 have hc52 := hX2.b5.cell
 have hl22 := hX2.load2 rfl
 have hl52 := hX2.load5 rfl
 clear hX2 hT h
 have hcf := hide (containsFunc_any (c := c7) hrows2.out hcnH.out hlt5)
 rw [htlH.out] at hcf
 go_enter Tryd.func40, Tryd.ntmps40
 have e1 : (r.kind == 1) = false := by simp [hkd]
 have e2 : (r.kind == 2) = true := by simp [hkd]
 have hkdH := hide hkd
 clear hkd
 go_wp2_with (first
  | (go_at_call 62; refine Calls.ret hcf.out ?_; rintro v w3 ⟨rfl, hb3⟩; rw [htk.out]; have hX3 := hX2H.out.at hb3; have hc23 := hX3.b2.cell; have hc53 := hX3.b5.cell; have hl23 := hX3.load2 rfl; have hl53 := hX3.load5 rfl; have hX3H := hide hX3; have hb03 := hide (hb02.out.trans (hb3.mono hb02.out.size)); clear hb3 hX3 hc22 hc52 hl22 hl52)
  | (go_at_call 21; refine Calls.ret (validName_any r.name w3 hnm hX3H.out.tab) ?_; rintro v w4 ⟨rfl, hb4⟩; rw [hok.out]; have hX4 := hX3H.out.at hb4; have hc24 := hX4.b2.cell; have hc54 := hX4.b5.cell; have hl24 := hX4.load2 rfl; have hl54 := hX4.load5 rfl; have hX4H := hide hX4; have hb04 := hide (hb03.out.trans (hb4.mono hb03.out.size)); clear hb4 hX4 hc23 hc53 hl23 hl53)
  | (go_at_call 64; refine (fits_any _ _ _).mono ?_; rintro e w' ⟨rfl, rfl⟩; rw [hfit.out])
  | (go_at_call 65; refine Calls.ret (surplus_any hX4H.out.ru hs) ?_; rintro v w5 ⟨rfl, hb5⟩; rw [hsur.out]; have hX5 := hX4H.out.at hb5; have hc25 := hX5.b2.cell; have hc55 := hX5.b5.cell; have hl25 := hX5.load2 rfl; have hl55 := hX5.load5 rfl; have hX5H := hide hX5; have hb05 := hide (hb04.out.trans (hb5.mono hb04.out.size)); clear hb5 hX5 hc24 hc54 hl24 hl54))
 have hge6 := hide (show allE id [idxE r.fr (p.states.length : Int), idxE r.to (p.states.length : Int)] = 0 from by simp [allE, orE_self0]; exact hidx.out)
 have hX5d := hX5H.out.at (drewB w5)
 have hc25d := hX5d.b2.cell
 have hc55d := hX5d.b5.cell
 have hl25d := hX5d.load2 rfl
 have hl55d := hX5d.load5 rfl
 have hX5dH := hide hX5d
 have hb05d := hide (hb05.out.trans ((drewB w5).mono hb05.out.size))
 clear hX5d hc25 hc55 hl25 hl55
 refine Reg.cI [0, 1, 0, 7, 0, 16, 0, 127, 255, 511, 1023] [0, 1, 2, 4, 5, 6, 3, 7, 8, 9, 10] ?_
 refine Reg.wI [0, 1, 2, 4, 5, 6] [3, 7, 8, 9, 10] rfl fun Qf hQf => ?_
 go_wp2_with fail
 first | refine hQf _ _ ⟨rfl, ?_⟩ | refine ⟨rfl, ?_⟩
 try clear hQf
 refine Reg.aI 3 [7, 8, 9, 10] [5] rfl fun Qf hQf => ?_
 simp only [gT, gS, gZ]
 go_wp2_with (go_at_call 44; refine (index_any _ _ _).mono ?_; rintro e w' ⟨rfl, rfl⟩)
 first | refine hQf _ _ ⟨Reg.same_below (Below.refl _ _) [5] rfl, ?_⟩ | refine ⟨Reg.same_below (Below.refl _ _) [5] rfl, ?_⟩
 try clear hQf
 refine Reg.aI 7 [8, 9, 10] [] rfl fun Qf hQf => ?_
 simp only [gT, gS, gZ]
 go_wp2_with (go_at_call 44; refine (index_any _ _ _).mono ?_; rintro e w' ⟨rfl, rfl⟩)
 first | refine hQf _ _ ⟨Reg.nm, ?_⟩ | refine ⟨Reg.nm, ?_⟩
 try clear hQf
 obtain ⟨w6, hw6, hb6, hB6, hk6⟩ := box_blk w5.drew #[.int .i64 (idxE r.fr (p.states.length : Int)), .int .i64 (idxE r.to (p.states.length : Int))] 33
 have hS6 := hide (errs_sl (l := [idxE r.fr (p.states.length : Int), idxE r.to (p.states.length : Int)]) hB6 (by simp))
 have hq6 : Below w5.drew.heap.size w5.drew w6 := hb6
 clear hB6 hk6 hb6
 have hX6 := hX5dH.out.at hq6
 have hc26 := hX6.b2.cell
 have hc56 := hX6.b5.cell
 have hl26 := hX6.load2 rfl
 have hl56 := hX6.load5 rfl
 have hX6H := hide hX6
 have hb06 := hide (hb05d.out.trans (hq6.mono hb05d.out.size))
 clear hq6 hX6 hc25d hc55d hl25d hl55d
 refine Reg.wI [8] [9, 10] rfl fun Qf hQf => ?_
 go_wp2_with fail
 first | refine hQf _ _ ⟨rfl, ?_⟩ | refine ⟨rfl, ?_⟩
 try clear hQf
 refine Reg.aI 9 [10] [] rfl fun Qf hQf => ?_
 simp only [gT, gS, gZ]
 go_wp2_with (go_at_call 24; refine (first_any (l := [idxE r.fr (p.states.length : Int), idxE r.to (p.states.length : Int)]) hS6.out).mono ?_; rintro e w' ⟨rfl, rfl⟩; rw [hge6.out])
 first | refine hQf _ _ ⟨Reg.nm, ?_⟩ | refine ⟨Reg.nm, ?_⟩
 try clear hQf
 refine Reg.wI [10] [] rfl fun Qf hQf => ?_
 go_wp2_with fail
 first | refine hQf _ _ ⟨rfl, ?_⟩ | refine ⟨rfl, ?_⟩
 try clear hQf
 first | refine Reg.restI_end ?_ | skip
 go_wp2_with fail
 have hgez := hide (show allE id [idxE r.pf (p.states.length : Int), idxE r.pt (p.states.length : Int), valE r.rd (p.values.length : Int), valE r.wr (p.values.length : Int)] = kindP p.topo (p.states.length : Int) (p.messages.length : Int) (p.values.length : Int) r from by simp [allE, orE_self0, kindP, hkdH.out])
 have hX6d := hX6H.out.at (drewB w6)
 have hc26d := hX6d.b2.cell
 have hc56d := hX6d.b5.cell
 have hl26d := hX6d.load2 rfl
 have hl56d := hX6d.load5 rfl
 have hX6dH := hide hX6d
 have hb06d := hide (hb06.out.trans ((drewB w6).mono hb06.out.size))
 clear hX6d hc26 hc56 hl26 hl56
 refine Reg.cI [0, 1, 0, 7, 0, 16, 0, 127, 0, 0, 512, 2047, 0, 0, 8192, 32767, 65535, 131071, 262143] [0, 1, 2, 4, 5, 6, 8, 9, 10, 12, 13, 14, 3, 7, 11, 15, 16, 17, 18] ?_
 refine Reg.wI [0, 1, 2, 4, 5, 6, 8, 9, 10, 12, 13, 14] [3, 7, 11, 15, 16, 17, 18] rfl fun Qf hQf => ?_
 go_wp2_with fail
 first | refine hQf _ _ ⟨rfl, ?_⟩ | refine ⟨rfl, ?_⟩
 try clear hQf
 refine Reg.aI 3 [7, 11, 15, 16, 17, 18] [5, 8, 10, 12, 14] rfl fun Qf hQf => ?_
 simp only [gT, gS, gZ]
 go_wp2_with (go_at_call 44; refine (index_any _ _ _).mono ?_; rintro e w' ⟨rfl, rfl⟩)
 first | refine hQf _ _ ⟨Reg.same_below (Below.refl _ _) [5, 8, 10, 12, 14] rfl, ?_⟩ | refine ⟨Reg.same_below (Below.refl _ _) [5, 8, 10, 12, 14] rfl, ?_⟩
 try clear hQf
 refine Reg.aI 7 [11, 15, 16, 17, 18] [8, 10, 12, 14] rfl fun Qf hQf => ?_
 simp only [gT, gS, gZ]
 go_wp2_with (go_at_call 44; refine (index_any _ _ _).mono ?_; rintro e w' ⟨rfl, rfl⟩)
 first | refine hQf _ _ ⟨Reg.same_below (Below.refl _ _) [8, 10, 12, 14] rfl, ?_⟩ | refine ⟨Reg.same_below (Below.refl _ _) [8, 10, 12, 14] rfl, ?_⟩
 try clear hQf
 refine Reg.aI 11 [15, 16, 17, 18] [12, 14] rfl fun Qf hQf => ?_
 simp only [gT, gS, gZ]
 go_wp2_with (go_at_call 67; refine Calls.ret (value_any hX6dH.out.pr) ?_; rintro v wa ⟨rfl, hba⟩)
 first | refine hQf _ _ ⟨Reg.same_below (hba) [12, 14] rfl, ?_⟩ | refine ⟨Reg.same_below (hba) [12, 14] rfl, ?_⟩
 try clear hQf
 have hXa := hX6dH.out.at hba
 have hc2a := hXa.b2.cell
 have hc5a := hXa.b5.cell
 have hl2a := hXa.load2 rfl
 have hl5a := hXa.load5 rfl
 have hXaH := hide hXa
 have hb0a := hide (hb06d.out.trans (hba.mono hb06d.out.size))
 clear hba hXa hc26d hc56d hl26d hl56d
 refine Reg.aI 15 [16, 17, 18] [] rfl fun Qf hQf => ?_
 simp only [gT, gS, gZ]
 go_wp2_with (go_at_call 67; refine Calls.ret (value_any hXaH.out.pr) ?_; rintro v wb ⟨rfl, hbb⟩)
 first | refine hQf _ _ ⟨Reg.nm, ?_⟩ | refine ⟨Reg.nm, ?_⟩
 try clear hQf
 have hXb := hXaH.out.at hbb
 have hc2b := hXb.b2.cell
 have hc5b := hXb.b5.cell
 have hl2b := hXb.load2 rfl
 have hl5b := hXb.load5 rfl
 have hXbH := hide hXb
 have hb0b := hide (hb0a.out.trans (hbb.mono hb0a.out.size))
 clear hbb hXb hc2a hc5a hl2a hl5a
 obtain ⟨wz, hwz, hbz, hBz, hkz⟩ := box_blk wb #[.int .i64 (idxE r.pf (p.states.length : Int)), .int .i64 (idxE r.pt (p.states.length : Int)), .int .i64 (valE r.rd (p.values.length : Int)), .int .i64 (valE r.wr (p.values.length : Int))] 33
 have hSz := hide (errs_sl (l := [idxE r.pf (p.states.length : Int), idxE r.pt (p.states.length : Int), valE r.rd (p.values.length : Int), valE r.wr (p.values.length : Int)]) hBz (by simp))
 have hqz := hbz
 clear hBz hkz hbz
 have hXz := hXbH.out.at hqz
 have hc2z := hXz.b2.cell
 have hc5z := hXz.b5.cell
 have hl2z := hXz.load2 rfl
 have hl5z := hXz.load5 rfl
 have hXzH := hide hXz
 have hb0z := hide (hb0b.out.trans (hqz.mono hb0b.out.size))
 clear hqz hXz hc2b hc5b hl2b hl5b
 refine Reg.wI [16] [17, 18] rfl fun Qf hQf => ?_
 go_wp2_with fail
 first | refine hQf _ _ ⟨rfl, ?_⟩ | refine ⟨rfl, ?_⟩
 try clear hQf
 refine Reg.aI 17 [18] [] rfl fun Qf hQf => ?_
 simp only [gT, gS, gZ]
 go_wp2_with (go_at_call 24; refine (first_any (l := [idxE r.pf (p.states.length : Int), idxE r.pt (p.states.length : Int), valE r.rd (p.values.length : Int), valE r.wr (p.values.length : Int)]) hSz.out).mono ?_; rintro e w' ⟨rfl, rfl⟩; rw [hgez.out])
 first | refine hQf _ _ ⟨Reg.nm, ?_⟩ | refine ⟨Reg.nm, ?_⟩
 try clear hQf
 refine Reg.wI [18] [] rfl fun Qf hQf => ?_
 go_wp2_with fail
 first | refine hQf _ _ ⟨rfl, ?_⟩ | refine ⟨rfl, ?_⟩
 try clear hQf
 first | refine Reg.restI_end ?_ | skip
 go_wp2_with fail
 go_ret
 exact ⟨rfl, hb0z.out⟩
theorem re_k3 {w : World} {cs : List Value} {p : ProtD} {r : RuleD} {i : Nat} (h : ProtIs w w.heap.size cs p) (hr : p.rules[i]? = some r) (hs : r.Small) (hnm : r.name.size ≤ 9223372036854775807) (hT : SpOK w) (hok : Hid (nameOK r.name = true)) (htk : Hid (((p.rules.take i).any fun x => decide (x.name = r.name)) = false)) (hfit : Hid (fitsP r.kind p.topo = true)) (hsur : Hid (surplusP p.topo r = false)) (hidx : Hid (orE (idxE r.fr (p.states.length : Int)) (idxE r.to (p.states.length : Int)) = 0)) (hkd : r.kind = 3) :
  Calls Tryd.prog 40 #[.agg cs.toArray, .int .i64 (i : Int)] w (Ret fun v w' => v = .int .i64 (kindP p.topo (p.states.length : Int) (p.messages.length : Int) (p.values.length : Int) r) ∧ Below w.heap.size w w') := by
 obtain ⟨A1, c1, A2, c2, A3, c3, A4, c4, A5, c5, A6, c6, A7, c7, E1, f1, E2, f2, E3, f3, E4, f4, E5, f5, E6, f6, E7, f7, E8, f8, b, off, w1, w2, hn7, hcap, hil, rfl, rfl, hw1, hc21, hlc, hsc, hX2, hrows2, hcnH, hlt5, hb02, htlH, hbk⟩ := re_head h hr hT
 replace hrows2 := hide hrows2
 replace hcnH := hide hcnH
 replace hb02 := hide hb02
 replace htlH := hide htlH
 have hX2H := hide hX2
 have hc22 := hX2.b2.cell
 have hc52 := hX2.b5.cell
 have hl22 := hX2.load2 rfl
 have hl52 := hX2.load5 rfl
 clear hX2 hT h
 have hcf := hide (containsFunc_any (c := c7) hrows2.out hcnH.out hlt5)
 rw [htlH.out] at hcf
 go_enter Tryd.func40, Tryd.ntmps40
 have e1 : (r.kind == 1) = false := by simp [hkd]
 have e2 : (r.kind == 2) = false := by simp [hkd]
 have e3 : (r.kind == 3) = true := by simp [hkd]
 have hkdH := hide hkd
 clear hkd
 go_wp2_with (first
  | (go_at_call 62; refine Calls.ret hcf.out ?_; rintro v w3 ⟨rfl, hb3⟩; rw [htk.out]; have hX3 := hX2H.out.at hb3; have hc23 := hX3.b2.cell; have hc53 := hX3.b5.cell; have hl23 := hX3.load2 rfl; have hl53 := hX3.load5 rfl; have hX3H := hide hX3; have hb03 := hide (hb02.out.trans (hb3.mono hb02.out.size)); clear hb3 hX3 hc22 hc52 hl22 hl52)
  | (go_at_call 21; refine Calls.ret (validName_any r.name w3 hnm hX3H.out.tab) ?_; rintro v w4 ⟨rfl, hb4⟩; rw [hok.out]; have hX4 := hX3H.out.at hb4; have hc24 := hX4.b2.cell; have hc54 := hX4.b5.cell; have hl24 := hX4.load2 rfl; have hl54 := hX4.load5 rfl; have hX4H := hide hX4; have hb04 := hide (hb03.out.trans (hb4.mono hb03.out.size)); clear hb4 hX4 hc23 hc53 hl23 hl53)
  | (go_at_call 64; refine (fits_any _ _ _).mono ?_; rintro e w' ⟨rfl, rfl⟩; rw [hfit.out])
  | (go_at_call 65; refine Calls.ret (surplus_any hX4H.out.ru hs) ?_; rintro v w5 ⟨rfl, hb5⟩; rw [hsur.out]; have hX5 := hX4H.out.at hb5; have hc25 := hX5.b2.cell; have hc55 := hX5.b5.cell; have hl25 := hX5.load2 rfl; have hl55 := hX5.load5 rfl; have hX5H := hide hX5; have hb05 := hide (hb04.out.trans (hb5.mono hb04.out.size)); clear hb5 hX5 hc24 hc54 hl24 hl54))
 have hge6 := hide (show allE id [idxE r.fr (p.states.length : Int), idxE r.to (p.states.length : Int)] = 0 from by simp [allE, orE_self0]; exact hidx.out)
 have hX5d := hX5H.out.at (drewB w5)
 have hc25d := hX5d.b2.cell
 have hc55d := hX5d.b5.cell
 have hl25d := hX5d.load2 rfl
 have hl55d := hX5d.load5 rfl
 have hX5dH := hide hX5d
 have hb05d := hide (hb05.out.trans ((drewB w5).mono hb05.out.size))
 clear hX5d hc25 hc55 hl25 hl55
 refine Reg.cI [0, 1, 0, 7, 0, 16, 0, 127, 255, 511, 1023] [0, 1, 2, 4, 5, 6, 3, 7, 8, 9, 10] ?_
 refine Reg.wI [0, 1, 2, 4, 5, 6] [3, 7, 8, 9, 10] rfl fun Qf hQf => ?_
 go_wp2_with fail
 first | refine hQf _ _ ⟨rfl, ?_⟩ | refine ⟨rfl, ?_⟩
 try clear hQf
 refine Reg.aI 3 [7, 8, 9, 10] [5] rfl fun Qf hQf => ?_
 simp only [gT, gS, gZ]
 go_wp2_with (go_at_call 44; refine (index_any _ _ _).mono ?_; rintro e w' ⟨rfl, rfl⟩)
 first | refine hQf _ _ ⟨Reg.same_below (Below.refl _ _) [5] rfl, ?_⟩ | refine ⟨Reg.same_below (Below.refl _ _) [5] rfl, ?_⟩
 try clear hQf
 refine Reg.aI 7 [8, 9, 10] [] rfl fun Qf hQf => ?_
 simp only [gT, gS, gZ]
 go_wp2_with (go_at_call 44; refine (index_any _ _ _).mono ?_; rintro e w' ⟨rfl, rfl⟩)
 first | refine hQf _ _ ⟨Reg.nm, ?_⟩ | refine ⟨Reg.nm, ?_⟩
 try clear hQf
 obtain ⟨w6, hw6, hb6, hB6, hk6⟩ := box_blk w5.drew #[.int .i64 (idxE r.fr (p.states.length : Int)), .int .i64 (idxE r.to (p.states.length : Int))] 33
 have hS6 := hide (errs_sl (l := [idxE r.fr (p.states.length : Int), idxE r.to (p.states.length : Int)]) hB6 (by simp))
 have hq6 : Below w5.drew.heap.size w5.drew w6 := hb6
 clear hB6 hk6 hb6
 have hX6 := hX5dH.out.at hq6
 have hc26 := hX6.b2.cell
 have hc56 := hX6.b5.cell
 have hl26 := hX6.load2 rfl
 have hl56 := hX6.load5 rfl
 have hX6H := hide hX6
 have hb06 := hide (hb05d.out.trans (hq6.mono hb05d.out.size))
 clear hq6 hX6 hc25d hc55d hl25d hl55d
 refine Reg.wI [8] [9, 10] rfl fun Qf hQf => ?_
 go_wp2_with fail
 first | refine hQf _ _ ⟨rfl, ?_⟩ | refine ⟨rfl, ?_⟩
 try clear hQf
 refine Reg.aI 9 [10] [] rfl fun Qf hQf => ?_
 simp only [gT, gS, gZ]
 go_wp2_with (go_at_call 24; refine (first_any (l := [idxE r.fr (p.states.length : Int), idxE r.to (p.states.length : Int)]) hS6.out).mono ?_; rintro e w' ⟨rfl, rfl⟩; rw [hge6.out])
 first | refine hQf _ _ ⟨Reg.nm, ?_⟩ | refine ⟨Reg.nm, ?_⟩
 try clear hQf
 refine Reg.wI [10] [] rfl fun Qf hQf => ?_
 go_wp2_with fail
 first | refine hQf _ _ ⟨rfl, ?_⟩ | refine ⟨rfl, ?_⟩
 try clear hQf
 first | refine Reg.restI_end ?_ | skip
 go_wp2_with fail
 have hgez := hide (show allE id [respE (p.states.length : Int) r.resp, valE r.rd (p.values.length : Int), valE r.wr (p.values.length : Int)] = kindP p.topo (p.states.length : Int) (p.messages.length : Int) (p.values.length : Int) r from by simp [allE, orE_self0, kindP, hkdH.out])
 have hX6d := hX6H.out.at (drewB w6)
 have hc26d := hX6d.b2.cell
 have hc56d := hX6d.b5.cell
 have hl26d := hX6d.load2 rfl
 have hl56d := hX6d.load5 rfl
 have hX6dH := hide hX6d
 have hb06d := hide (hb06.out.trans ((drewB w6).mono hb06.out.size))
 clear hX6d hc26 hc56 hl26 hl56
 refine Reg.cI [0, 1, 0, 7, 0, 0, 32, 127, 0, 0, 512, 2047, 4095, 8191, 16383] [0, 1, 2, 4, 5, 6, 8, 9, 10, 3, 7, 11, 12, 13, 14] ?_
 refine Reg.wI [0, 1, 2, 4, 5, 6, 8, 9, 10] [3, 7, 11, 12, 13, 14] rfl fun Qf hQf => ?_
 go_wp2_with fail
 first | refine hQf _ _ ⟨rfl, ?_⟩ | refine ⟨rfl, ?_⟩
 try clear hQf
 refine Reg.aI 3 [7, 11, 12, 13, 14] [4, 6, 8, 10] rfl fun Qf hQf => ?_
 simp only [gT, gS, gZ]
 go_wp2_with (go_at_call 68; refine (responses_any (rule_parts hX6dH.out.ru).1).mono ?_; rintro e w' ⟨rfl, rfl⟩)
 first | refine hQf _ _ ⟨Reg.same_below (Below.refl _ _) [4, 6, 8, 10] rfl, ?_⟩ | refine ⟨Reg.same_below (Below.refl _ _) [4, 6, 8, 10] rfl, ?_⟩
 try clear hQf
 refine Reg.aI 7 [11, 12, 13, 14] [8, 10] rfl fun Qf hQf => ?_
 simp only [gT, gS, gZ]
 go_wp2_with (go_at_call 67; refine Calls.ret (value_any hX6dH.out.pr) ?_; rintro v wa ⟨rfl, hba⟩)
 first | refine hQf _ _ ⟨Reg.same_below (hba) [8, 10] rfl, ?_⟩ | refine ⟨Reg.same_below (hba) [8, 10] rfl, ?_⟩
 try clear hQf
 have hXa := hX6dH.out.at hba
 have hc2a := hXa.b2.cell
 have hc5a := hXa.b5.cell
 have hl2a := hXa.load2 rfl
 have hl5a := hXa.load5 rfl
 have hXaH := hide hXa
 have hb0a := hide (hb06d.out.trans (hba.mono hb06d.out.size))
 clear hba hXa hc26d hc56d hl26d hl56d
 refine Reg.aI 11 [12, 13, 14] [] rfl fun Qf hQf => ?_
 simp only [gT, gS, gZ]
 go_wp2_with (go_at_call 67; refine Calls.ret (value_any hXaH.out.pr) ?_; rintro v wb ⟨rfl, hbb⟩)
 first | refine hQf _ _ ⟨Reg.nm, ?_⟩ | refine ⟨Reg.nm, ?_⟩
 try clear hQf
 have hXb := hXaH.out.at hbb
 have hc2b := hXb.b2.cell
 have hc5b := hXb.b5.cell
 have hl2b := hXb.load2 rfl
 have hl5b := hXb.load5 rfl
 have hXbH := hide hXb
 have hb0b := hide (hb0a.out.trans (hbb.mono hb0a.out.size))
 clear hbb hXb hc2a hc5a hl2a hl5a
 obtain ⟨wz, hwz, hbz, hBz, hkz⟩ := box_blk wb #[.int .i64 (respE (p.states.length : Int) r.resp), .int .i64 (valE r.rd (p.values.length : Int)), .int .i64 (valE r.wr (p.values.length : Int))] 33
 have hSz := hide (errs_sl (l := [respE (p.states.length : Int) r.resp, valE r.rd (p.values.length : Int), valE r.wr (p.values.length : Int)]) hBz (by simp))
 have hqz := hbz
 clear hBz hkz hbz
 have hXz := hXbH.out.at hqz
 have hc2z := hXz.b2.cell
 have hc5z := hXz.b5.cell
 have hl2z := hXz.load2 rfl
 have hl5z := hXz.load5 rfl
 have hXzH := hide hXz
 have hb0z := hide (hb0b.out.trans (hqz.mono hb0b.out.size))
 clear hqz hXz hc2b hc5b hl2b hl5b
 refine Reg.wI [12] [13, 14] rfl fun Qf hQf => ?_
 go_wp2_with fail
 first | refine hQf _ _ ⟨rfl, ?_⟩ | refine ⟨rfl, ?_⟩
 try clear hQf
 refine Reg.aI 13 [14] [] rfl fun Qf hQf => ?_
 simp only [gT, gS, gZ]
 go_wp2_with (go_at_call 24; refine (first_any (l := [respE (p.states.length : Int) r.resp, valE r.rd (p.values.length : Int), valE r.wr (p.values.length : Int)]) hSz.out).mono ?_; rintro e w' ⟨rfl, rfl⟩; rw [hgez.out])
 first | refine hQf _ _ ⟨Reg.nm, ?_⟩ | refine ⟨Reg.nm, ?_⟩
 try clear hQf
 refine Reg.wI [14] [] rfl fun Qf hQf => ?_
 go_wp2_with fail
 first | refine hQf _ _ ⟨rfl, ?_⟩ | refine ⟨rfl, ?_⟩
 try clear hQf
 first | refine Reg.restI_end ?_ | skip
 go_wp2_with fail
 go_ret
 exact ⟨rfl, hb0z.out⟩
end Go.Proofs.YtbjdgepfhhafjaaDoor
namespace Go.Proofs.YtbjdgepfhhafjaaDoor
open Go.RowKit
attribute [-go_sem] loadCellsFrom storeCells
theorem re_k51a {w : World} {cs : List Value} {p : ProtD} {r : RuleD} {i : Nat} (h : ProtIs w w.heap.size cs p) (hr : p.rules[i]? = some r) (hs : r.Small) (hnm : r.name.size ≤ 9223372036854775807) (hT : SpOK w) (hok : Hid (nameOK r.name = true)) (htk : Hid (((p.rules.take i).any fun x => decide (x.name = r.name)) = false)) (hfit : Hid (fitsP r.kind p.topo = true)) (hsur : Hid (surplusP p.topo r = false)) (hidx : Hid (orE (idxE r.fr (p.states.length : Int)) (idxE r.to (p.states.length : Int)) = 0)) (hkd : r.kind = 5) (ht : p.topo = 4) (ha : r.dir < 3) :
  Calls Tryd.prog 40 #[.agg cs.toArray, .int .i64 (i : Int)] w (Ret fun v w' => v = .int .i64 (kindP p.topo (p.states.length : Int) (p.messages.length : Int) (p.values.length : Int) r) ∧ Below w.heap.size w w') := by
 obtain ⟨A1, c1, A2, c2, A3, c3, A4, c4, A5, c5, A6, c6, A7, c7, E1, f1, E2, f2, E3, f3, E4, f4, E5, f5, E6, f6, E7, f7, E8, f8, b, off, w1, w2, hn7, hcap, hil, rfl, rfl, hw1, hc21, hlc, hsc, hX2, hrows2, hcnH, hlt5, hb02, htlH, hbk⟩ := re_head h hr hT
 replace hrows2 := hide hrows2
 replace hcnH := hide hcnH
 replace hb02 := hide hb02
 replace htlH := hide htlH
 have hX2H := hide hX2
 have hc22 := hX2.b2.cell
 have hc52 := hX2.b5.cell
 have hl22 := hX2.load2 rfl
 have hl52 := hX2.load5 rfl
 clear hX2 hT h
 have hcf := hide (containsFunc_any (c := c7) hrows2.out hcnH.out hlt5)
 rw [htlH.out] at hcf
 go_enter Tryd.func40, Tryd.ntmps40
 have hm := hide (show (if p.topo = 4 then decide (r.dir < 3) || decide (4 < r.dir) else decide (r.dir < 1) || decide (2 < r.dir)) = true from by simp [ht, ha])
 have e1 : (r.kind == 1) = false := by simp [hkd]
 have e2 : (r.kind == 2) = false := by simp [hkd]
 have e3 : (r.kind == 3) = false := by simp [hkd]
 have e4 : (r.kind == 4) = false := by simp [hkd]
 have hkdH := hide hkd
 clear hkd
 have et : (p.topo == 4) = true := by simp [ht]
 have htH := hide ht
 clear ht
 go_wp2_with (first
  | (go_at_call 62; refine Calls.ret hcf.out ?_; rintro v w3 ⟨rfl, hb3⟩; rw [htk.out]; have hX3 := hX2H.out.at hb3; have hc23 := hX3.b2.cell; have hc53 := hX3.b5.cell; have hl23 := hX3.load2 rfl; have hl53 := hX3.load5 rfl; have hX3H := hide hX3; have hb03 := hide (hb02.out.trans (hb3.mono hb02.out.size)); clear hb3 hX3 hc22 hc52 hl22 hl52)
  | (go_at_call 21; refine Calls.ret (validName_any r.name w3 hnm hX3H.out.tab) ?_; rintro v w4 ⟨rfl, hb4⟩; rw [hok.out]; have hX4 := hX3H.out.at hb4; have hc24 := hX4.b2.cell; have hc54 := hX4.b5.cell; have hl24 := hX4.load2 rfl; have hl54 := hX4.load5 rfl; have hX4H := hide hX4; have hb04 := hide (hb03.out.trans (hb4.mono hb03.out.size)); clear hb4 hX4 hc23 hc53 hl23 hl53)
  | (go_at_call 64; refine (fits_any _ _ _).mono ?_; rintro e w' ⟨rfl, rfl⟩; rw [hfit.out])
  | (go_at_call 65; refine Calls.ret (surplus_any hX4H.out.ru hs) ?_; rintro v w5 ⟨rfl, hb5⟩; rw [hsur.out]; have hX5 := hX4H.out.at hb5; have hc25 := hX5.b2.cell; have hc55 := hX5.b5.cell; have hl25 := hX5.load2 rfl; have hl55 := hX5.load5 rfl; have hX5H := hide hX5; have hb05 := hide (hb04.out.trans (hb5.mono hb04.out.size)); clear hb5 hX5 hc24 hc54 hl24 hl54))
 have hge6 := hide (show allE id [idxE r.fr (p.states.length : Int), idxE r.to (p.states.length : Int)] = 0 from by simp [allE, orE_self0]; exact hidx.out)
 have hX5d := hX5H.out.at (drewB w5)
 have hc25d := hX5d.b2.cell
 have hc55d := hX5d.b5.cell
 have hl25d := hX5d.load2 rfl
 have hl55d := hX5d.load5 rfl
 have hX5dH := hide hX5d
 have hb05d := hide (hb05.out.trans ((drewB w5).mono hb05.out.size))
 clear hX5d hc25 hc55 hl25 hl55
 refine Reg.cI [0, 1, 0, 7, 0, 16, 0, 127, 255, 511, 1023] [0, 1, 2, 4, 5, 6, 3, 7, 8, 9, 10] ?_
 refine Reg.wI [0, 1, 2, 4, 5, 6] [3, 7, 8, 9, 10] rfl fun Qf hQf => ?_
 go_wp2_with fail
 first | refine hQf _ _ ⟨rfl, ?_⟩ | refine ⟨rfl, ?_⟩ | refine hQf _ _ ⟨by simp [Reg.fineT, Reg.intOp, Region.wanted, yielded, Reg.intFine, Reg.isInt, Act.eval], ?_⟩
 try clear hQf
 refine Reg.aI 3 [7, 8, 9, 10] [5] rfl fun Qf hQf => ?_
 simp only [gT, gS, gZ]
 go_wp2_with (go_at_call 44; refine (index_any _ _ _).mono ?_; rintro e w' ⟨rfl, rfl⟩)
 first | refine hQf _ _ ⟨Reg.same_below (Below.refl _ _) [5] rfl, ?_⟩ | refine ⟨Reg.same_below (Below.refl _ _) [5] rfl, ?_⟩
 try clear hQf
 refine Reg.aI 7 [8, 9, 10] [] rfl fun Qf hQf => ?_
 simp only [gT, gS, gZ]
 go_wp2_with (go_at_call 44; refine (index_any _ _ _).mono ?_; rintro e w' ⟨rfl, rfl⟩)
 first | refine hQf _ _ ⟨Reg.nm, ?_⟩ | refine ⟨Reg.nm, ?_⟩
 try clear hQf
 obtain ⟨w6, hw6, hb6, hB6, hk6⟩ := box_blk w5.drew #[.int .i64 (idxE r.fr (p.states.length : Int)), .int .i64 (idxE r.to (p.states.length : Int))] 33
 have hS6 := hide (errs_sl (l := [idxE r.fr (p.states.length : Int), idxE r.to (p.states.length : Int)]) hB6 (by simp))
 have hq6 : Below w5.drew.heap.size w5.drew w6 := hb6
 clear hB6 hk6 hb6
 have hX6 := hX5dH.out.at hq6
 have hc26 := hX6.b2.cell
 have hc56 := hX6.b5.cell
 have hl26 := hX6.load2 rfl
 have hl56 := hX6.load5 rfl
 have hX6H := hide hX6
 have hb06 := hide (hb05d.out.trans (hq6.mono hb05d.out.size))
 clear hq6 hX6 hc25d hc55d hl25d hl55d
 refine Reg.wI [8] [9, 10] rfl fun Qf hQf => ?_
 go_wp2_with fail
 first | refine hQf _ _ ⟨rfl, ?_⟩ | refine ⟨rfl, ?_⟩ | refine hQf _ _ ⟨by simp [Reg.fineT, Reg.intOp, Region.wanted, yielded, Reg.intFine, Reg.isInt, Act.eval], ?_⟩
 try clear hQf
 refine Reg.aI 9 [10] [] rfl fun Qf hQf => ?_
 simp only [gT, gS, gZ]
 go_wp2_with (go_at_call 24; refine (first_any (l := [idxE r.fr (p.states.length : Int), idxE r.to (p.states.length : Int)]) hS6.out).mono ?_; rintro e w' ⟨rfl, rfl⟩; rw [hge6.out])
 first | refine hQf _ _ ⟨Reg.nm, ?_⟩ | refine ⟨Reg.nm, ?_⟩
 try clear hQf
 refine Reg.wI [10] [] rfl fun Qf hQf => ?_
 go_wp2_with fail
 first | refine hQf _ _ ⟨rfl, ?_⟩ | refine ⟨rfl, ?_⟩ | refine hQf _ _ ⟨by simp [Reg.fineT, Reg.intOp, Region.wanted, yielded, Reg.intFine, Reg.isInt, Act.eval], ?_⟩
 try clear hQf
 first | refine Reg.restI_end ?_ | skip
 go_wp2_with fail
 have hgez := hide (show allE id [idxE r.pf (p.states.length : Int), idxE r.pt (p.states.length : Int), whenE true 1] = kindP p.topo (p.states.length : Int) (p.messages.length : Int) (p.values.length : Int) r from by rw [← hm.out]; simp [allE, orE_self0, kindP, hkdH.out])
 have hX6d := hX6H.out.at (drewB w6)
 have hc26d := hX6d.b2.cell
 have hc56d := hX6d.b5.cell
 have hl26d := hX6d.load2 rfl
 have hl56d := hX6d.load5 rfl
 have hX6dH := hide hX6d
 have hb06d := hide (hb06.out.trans ((drewB w6).mono hb06.out.size))
 clear hX6d hc26 hc56 hl26 hl56
 refine Reg.cI [0, 1, 0, 7, 0, 16, 0, 127, 0, 256, 0, 1792, 4095, 8191, 16383, 8191, 65535, 131071, 262143, 524287, 1048575, 2097151] [0, 1, 2, 4, 5, 6, 8, 9, 10, 11, 3, 7, 12, 13, 14, 15, 16, 17, 18, 19, 20, 21] ?_
 refine Reg.wI [0, 1, 2, 4, 5, 6, 8, 9, 10, 11] [3, 7, 12, 13, 14, 15, 16, 17, 18, 19, 20, 21] rfl fun Qf hQf => ?_
 go_wp2_with fail
 first | refine hQf _ _ ⟨rfl, ?_⟩ | refine ⟨rfl, ?_⟩ | refine hQf _ _ ⟨by simp [Reg.fineT, Reg.intOp, Region.wanted, yielded, Reg.intFine, Reg.isInt, Act.eval], ?_⟩
 try clear hQf
 refine Reg.aI 3 [7, 12, 13, 14, 15, 16, 17, 18, 19, 20, 21] [5, 9] rfl fun Qf hQf => ?_
 simp only [gT, gS, gZ]
 go_wp2_with (go_at_call 44; refine (index_any _ _ _).mono ?_; rintro e w' ⟨rfl, rfl⟩)
 first | refine hQf _ _ ⟨Reg.same_below (Below.refl _ _) [5, 9] rfl, ?_⟩ | refine ⟨Reg.same_below (Below.refl _ _) [5, 9] rfl, ?_⟩
 try clear hQf
 refine Reg.aI 7 [12, 13, 14, 15, 16, 17, 18, 19, 20, 21] [9] rfl fun Qf hQf => ?_
 simp only [gT, gS, gZ]
 go_wp2_with (go_at_call 44; refine (index_any _ _ _).mono ?_; rintro e w' ⟨rfl, rfl⟩)
 first | refine hQf _ _ ⟨Reg.same_below (Below.refl _ _) [9] rfl, ?_⟩ | refine ⟨Reg.same_below (Below.refl _ _) [9] rfl, ?_⟩
 try clear hQf
 refine Reg.wI [12, 13, 14, 15, 16, 17] [18, 19, 20, 21] rfl fun Qf hQf => ?_
 go_wp2_with fail
 first | refine hQf _ _ ⟨rfl, ?_⟩ | refine ⟨rfl, ?_⟩ | refine hQf _ _ ⟨by simp [Reg.fineT, Reg.intOp, Region.wanted, yielded, Reg.intFine, Reg.isInt, Act.eval], ?_⟩
 try clear hQf
 refine Reg.aI 18 [19, 20, 21] [] rfl fun Qf hQf => ?_
 simp only [gT, gS, gZ]
 go_wp2_with (go_at_call 25; refine (when_any _ _ _).mono ?_; rintro e w' ⟨rfl, rfl⟩)
 first | refine hQf _ _ ⟨Reg.nm, ?_⟩ | refine ⟨Reg.nm, ?_⟩
 try clear hQf
 obtain ⟨wz, hwz, hbz, hBz, hkz⟩ := box_blk w6.drew #[.int .i64 (idxE r.pf (p.states.length : Int)), .int .i64 (idxE r.pt (p.states.length : Int)), .int .i64 (whenE true 1)] 33
 have hSz := hide (errs_sl (l := [idxE r.pf (p.states.length : Int), idxE r.pt (p.states.length : Int), whenE true 1]) hBz (by simp))
 have hqz : Below w6.drew.heap.size w6.drew wz := hbz
 clear hBz hkz hbz
 have hXz := hX6dH.out.at hqz
 have hc2z := hXz.b2.cell
 have hc5z := hXz.b5.cell
 have hl2z := hXz.load2 rfl
 have hl5z := hXz.load5 rfl
 have hXzH := hide hXz
 have hb0z := hide (hb06d.out.trans (hqz.mono hb06d.out.size))
 clear hqz hXz hc26d hc56d hl26d hl56d
 refine Reg.wI [19] [20, 21] rfl fun Qf hQf => ?_
 go_wp2_with fail
 first | refine hQf _ _ ⟨rfl, ?_⟩ | refine ⟨rfl, ?_⟩ | refine hQf _ _ ⟨by simp [Reg.fineT, Reg.intOp, Region.wanted, yielded, Reg.intFine, Reg.isInt, Act.eval], ?_⟩
 try clear hQf
 refine Reg.aI 20 [21] [] rfl fun Qf hQf => ?_
 simp only [gT, gS, gZ]
 go_wp2_with (go_at_call 24; refine (first_any (l := [idxE r.pf (p.states.length : Int), idxE r.pt (p.states.length : Int), whenE true 1]) hSz.out).mono ?_; rintro e w' ⟨rfl, rfl⟩; rw [hgez.out])
 first | refine hQf _ _ ⟨Reg.nm, ?_⟩ | refine ⟨Reg.nm, ?_⟩
 try clear hQf
 refine Reg.wI [21] [] rfl fun Qf hQf => ?_
 go_wp2_with fail
 first | refine hQf _ _ ⟨rfl, ?_⟩ | refine ⟨rfl, ?_⟩ | refine hQf _ _ ⟨by simp [Reg.fineT, Reg.intOp, Region.wanted, yielded, Reg.intFine, Reg.isInt, Act.eval], ?_⟩
 try clear hQf
 first | refine Reg.restI_end ?_ | skip
 go_wp2_with fail
 go_ret
 exact ⟨rfl, hb0z.out⟩
theorem re_k51b {w : World} {cs : List Value} {p : ProtD} {r : RuleD} {i : Nat} (h : ProtIs w w.heap.size cs p) (hr : p.rules[i]? = some r) (hs : r.Small) (hnm : r.name.size ≤ 9223372036854775807) (hT : SpOK w) (hok : Hid (nameOK r.name = true)) (htk : Hid (((p.rules.take i).any fun x => decide (x.name = r.name)) = false)) (hfit : Hid (fitsP r.kind p.topo = true)) (hsur : Hid (surplusP p.topo r = false)) (hidx : Hid (orE (idxE r.fr (p.states.length : Int)) (idxE r.to (p.states.length : Int)) = 0)) (hkd : r.kind = 5) (ht : p.topo = 4) (ha : ¬ r.dir < 3) :
  Calls Tryd.prog 40 #[.agg cs.toArray, .int .i64 (i : Int)] w (Ret fun v w' => v = .int .i64 (kindP p.topo (p.states.length : Int) (p.messages.length : Int) (p.values.length : Int) r) ∧ Below w.heap.size w w') := by
 obtain ⟨A1, c1, A2, c2, A3, c3, A4, c4, A5, c5, A6, c6, A7, c7, E1, f1, E2, f2, E3, f3, E4, f4, E5, f5, E6, f6, E7, f7, E8, f8, b, off, w1, w2, hn7, hcap, hil, rfl, rfl, hw1, hc21, hlc, hsc, hX2, hrows2, hcnH, hlt5, hb02, htlH, hbk⟩ := re_head h hr hT
 replace hrows2 := hide hrows2
 replace hcnH := hide hcnH
 replace hb02 := hide hb02
 replace htlH := hide htlH
 have hX2H := hide hX2
 have hc22 := hX2.b2.cell
 have hc52 := hX2.b5.cell
 have hl22 := hX2.load2 rfl
 have hl52 := hX2.load5 rfl
 clear hX2 hT h
 have hcf := hide (containsFunc_any (c := c7) hrows2.out hcnH.out hlt5)
 rw [htlH.out] at hcf
 go_enter Tryd.func40, Tryd.ntmps40
 have hm := hide (show (if p.topo = 4 then decide (r.dir < 3) || decide (4 < r.dir) else decide (r.dir < 1) || decide (2 < r.dir)) = (decide (r.dir < 3) || decide (4 < r.dir)) from by simp [ht, ha])
 have e1 : (r.kind == 1) = false := by simp [hkd]
 have e2 : (r.kind == 2) = false := by simp [hkd]
 have e3 : (r.kind == 3) = false := by simp [hkd]
 have e4 : (r.kind == 4) = false := by simp [hkd]
 have hkdH := hide hkd
 clear hkd
 have et : (p.topo == 4) = true := by simp [ht]
 have htH := hide ht
 clear ht
 go_wp2_with (first
  | (go_at_call 62; refine Calls.ret hcf.out ?_; rintro v w3 ⟨rfl, hb3⟩; rw [htk.out]; have hX3 := hX2H.out.at hb3; have hc23 := hX3.b2.cell; have hc53 := hX3.b5.cell; have hl23 := hX3.load2 rfl; have hl53 := hX3.load5 rfl; have hX3H := hide hX3; have hb03 := hide (hb02.out.trans (hb3.mono hb02.out.size)); clear hb3 hX3 hc22 hc52 hl22 hl52)
  | (go_at_call 21; refine Calls.ret (validName_any r.name w3 hnm hX3H.out.tab) ?_; rintro v w4 ⟨rfl, hb4⟩; rw [hok.out]; have hX4 := hX3H.out.at hb4; have hc24 := hX4.b2.cell; have hc54 := hX4.b5.cell; have hl24 := hX4.load2 rfl; have hl54 := hX4.load5 rfl; have hX4H := hide hX4; have hb04 := hide (hb03.out.trans (hb4.mono hb03.out.size)); clear hb4 hX4 hc23 hc53 hl23 hl53)
  | (go_at_call 64; refine (fits_any _ _ _).mono ?_; rintro e w' ⟨rfl, rfl⟩; rw [hfit.out])
  | (go_at_call 65; refine Calls.ret (surplus_any hX4H.out.ru hs) ?_; rintro v w5 ⟨rfl, hb5⟩; rw [hsur.out]; have hX5 := hX4H.out.at hb5; have hc25 := hX5.b2.cell; have hc55 := hX5.b5.cell; have hl25 := hX5.load2 rfl; have hl55 := hX5.load5 rfl; have hX5H := hide hX5; have hb05 := hide (hb04.out.trans (hb5.mono hb04.out.size)); clear hb5 hX5 hc24 hc54 hl24 hl54))
 have hge6 := hide (show allE id [idxE r.fr (p.states.length : Int), idxE r.to (p.states.length : Int)] = 0 from by simp [allE, orE_self0]; exact hidx.out)
 have hX5d := hX5H.out.at (drewB w5)
 have hc25d := hX5d.b2.cell
 have hc55d := hX5d.b5.cell
 have hl25d := hX5d.load2 rfl
 have hl55d := hX5d.load5 rfl
 have hX5dH := hide hX5d
 have hb05d := hide (hb05.out.trans ((drewB w5).mono hb05.out.size))
 clear hX5d hc25 hc55 hl25 hl55
 refine Reg.cI [0, 1, 0, 7, 0, 16, 0, 127, 255, 511, 1023] [0, 1, 2, 4, 5, 6, 3, 7, 8, 9, 10] ?_
 refine Reg.wI [0, 1, 2, 4, 5, 6] [3, 7, 8, 9, 10] rfl fun Qf hQf => ?_
 go_wp2_with fail
 first | refine hQf _ _ ⟨rfl, ?_⟩ | refine ⟨rfl, ?_⟩ | refine hQf _ _ ⟨by simp [Reg.fineT, Reg.intOp, Region.wanted, yielded, Reg.intFine, Reg.isInt, Act.eval], ?_⟩
 try clear hQf
 refine Reg.aI 3 [7, 8, 9, 10] [5] rfl fun Qf hQf => ?_
 simp only [gT, gS, gZ]
 go_wp2_with (go_at_call 44; refine (index_any _ _ _).mono ?_; rintro e w' ⟨rfl, rfl⟩)
 first | refine hQf _ _ ⟨Reg.same_below (Below.refl _ _) [5] rfl, ?_⟩ | refine ⟨Reg.same_below (Below.refl _ _) [5] rfl, ?_⟩
 try clear hQf
 refine Reg.aI 7 [8, 9, 10] [] rfl fun Qf hQf => ?_
 simp only [gT, gS, gZ]
 go_wp2_with (go_at_call 44; refine (index_any _ _ _).mono ?_; rintro e w' ⟨rfl, rfl⟩)
 first | refine hQf _ _ ⟨Reg.nm, ?_⟩ | refine ⟨Reg.nm, ?_⟩
 try clear hQf
 obtain ⟨w6, hw6, hb6, hB6, hk6⟩ := box_blk w5.drew #[.int .i64 (idxE r.fr (p.states.length : Int)), .int .i64 (idxE r.to (p.states.length : Int))] 33
 have hS6 := hide (errs_sl (l := [idxE r.fr (p.states.length : Int), idxE r.to (p.states.length : Int)]) hB6 (by simp))
 have hq6 : Below w5.drew.heap.size w5.drew w6 := hb6
 clear hB6 hk6 hb6
 have hX6 := hX5dH.out.at hq6
 have hc26 := hX6.b2.cell
 have hc56 := hX6.b5.cell
 have hl26 := hX6.load2 rfl
 have hl56 := hX6.load5 rfl
 have hX6H := hide hX6
 have hb06 := hide (hb05d.out.trans (hq6.mono hb05d.out.size))
 clear hq6 hX6 hc25d hc55d hl25d hl55d
 refine Reg.wI [8] [9, 10] rfl fun Qf hQf => ?_
 go_wp2_with fail
 first | refine hQf _ _ ⟨rfl, ?_⟩ | refine ⟨rfl, ?_⟩ | refine hQf _ _ ⟨by simp [Reg.fineT, Reg.intOp, Region.wanted, yielded, Reg.intFine, Reg.isInt, Act.eval], ?_⟩
 try clear hQf
 refine Reg.aI 9 [10] [] rfl fun Qf hQf => ?_
 simp only [gT, gS, gZ]
 go_wp2_with (go_at_call 24; refine (first_any (l := [idxE r.fr (p.states.length : Int), idxE r.to (p.states.length : Int)]) hS6.out).mono ?_; rintro e w' ⟨rfl, rfl⟩; rw [hge6.out])
 first | refine hQf _ _ ⟨Reg.nm, ?_⟩ | refine ⟨Reg.nm, ?_⟩
 try clear hQf
 refine Reg.wI [10] [] rfl fun Qf hQf => ?_
 go_wp2_with fail
 first | refine hQf _ _ ⟨rfl, ?_⟩ | refine ⟨rfl, ?_⟩ | refine hQf _ _ ⟨by simp [Reg.fineT, Reg.intOp, Region.wanted, yielded, Reg.intFine, Reg.isInt, Act.eval], ?_⟩
 try clear hQf
 first | refine Reg.restI_end ?_ | skip
 go_wp2_with fail
 have hgez := hide (show allE id [idxE r.pf (p.states.length : Int), idxE r.pt (p.states.length : Int), whenE (decide (r.dir < 3) || decide (4 < r.dir)) 1] = kindP p.topo (p.states.length : Int) (p.messages.length : Int) (p.values.length : Int) r from by rw [← hm.out]; simp [allE, orE_self0, kindP, hkdH.out])
 have hX6d := hX6H.out.at (drewB w6)
 have hc26d := hX6d.b2.cell
 have hc56d := hX6d.b5.cell
 have hl26d := hX6d.load2 rfl
 have hl56d := hX6d.load5 rfl
 have hX6dH := hide hX6d
 have hb06d := hide (hb06.out.trans ((drewB w6).mono hb06.out.size))
 clear hX6d hc26 hc56 hl26 hl56
 refine Reg.cI [0, 1, 0, 7, 0, 16, 0, 127, 0, 256, 0, 1792, 4095, 8191, 16383, 8191, 65535, 131071, 262143, 524287, 1048575, 2097151] [0, 1, 2, 4, 5, 6, 8, 9, 10, 11, 3, 7, 12, 13, 14, 15, 16, 17, 18, 19, 20, 21] ?_
 refine Reg.wI [0, 1, 2, 4, 5, 6, 8, 9, 10, 11] [3, 7, 12, 13, 14, 15, 16, 17, 18, 19, 20, 21] rfl fun Qf hQf => ?_
 go_wp2_with fail
 first | refine hQf _ _ ⟨rfl, ?_⟩ | refine ⟨rfl, ?_⟩ | refine hQf _ _ ⟨by simp [Reg.fineT, Reg.intOp, Region.wanted, yielded, Reg.intFine, Reg.isInt, Act.eval], ?_⟩
 try clear hQf
 refine Reg.aI 3 [7, 12, 13, 14, 15, 16, 17, 18, 19, 20, 21] [5, 9] rfl fun Qf hQf => ?_
 simp only [gT, gS, gZ]
 go_wp2_with (go_at_call 44; refine (index_any _ _ _).mono ?_; rintro e w' ⟨rfl, rfl⟩)
 first | refine hQf _ _ ⟨Reg.same_below (Below.refl _ _) [5, 9] rfl, ?_⟩ | refine ⟨Reg.same_below (Below.refl _ _) [5, 9] rfl, ?_⟩
 try clear hQf
 refine Reg.aI 7 [12, 13, 14, 15, 16, 17, 18, 19, 20, 21] [9] rfl fun Qf hQf => ?_
 simp only [gT, gS, gZ]
 go_wp2_with (go_at_call 44; refine (index_any _ _ _).mono ?_; rintro e w' ⟨rfl, rfl⟩)
 first | refine hQf _ _ ⟨Reg.same_below (Below.refl _ _) [9] rfl, ?_⟩ | refine ⟨Reg.same_below (Below.refl _ _) [9] rfl, ?_⟩
 try clear hQf
 refine Reg.wI [12, 13, 14, 15, 16, 17] [18, 19, 20, 21] rfl fun Qf hQf => ?_
 go_wp2_with fail
 first | refine hQf _ _ ⟨rfl, ?_⟩ | refine ⟨rfl, ?_⟩ | refine hQf _ _ ⟨by simp [Reg.fineT, Reg.intOp, Region.wanted, yielded, Reg.intFine, Reg.isInt, Act.eval], ?_⟩
 try clear hQf
 refine Reg.aI 18 [19, 20, 21] [] rfl fun Qf hQf => ?_
 simp only [gT, gS, gZ]
 go_wp2_with (go_at_call 25; refine (when_any _ _ _).mono ?_; rintro e w' ⟨rfl, rfl⟩)
 first | refine hQf _ _ ⟨Reg.nm, ?_⟩ | refine ⟨Reg.nm, ?_⟩
 try clear hQf
 obtain ⟨wz, hwz, hbz, hBz, hkz⟩ := box_blk w6.drew #[.int .i64 (idxE r.pf (p.states.length : Int)), .int .i64 (idxE r.pt (p.states.length : Int)), .int .i64 (whenE (decide (r.dir < 3) || decide (4 < r.dir)) 1)] 33
 have hSz := hide (errs_sl (l := [idxE r.pf (p.states.length : Int), idxE r.pt (p.states.length : Int), whenE (decide (r.dir < 3) || decide (4 < r.dir)) 1]) hBz (by simp))
 have hqz : Below w6.drew.heap.size w6.drew wz := hbz
 clear hBz hkz hbz
 have hXz := hX6dH.out.at hqz
 have hc2z := hXz.b2.cell
 have hc5z := hXz.b5.cell
 have hl2z := hXz.load2 rfl
 have hl5z := hXz.load5 rfl
 have hXzH := hide hXz
 have hb0z := hide (hb06d.out.trans (hqz.mono hb06d.out.size))
 clear hqz hXz hc26d hc56d hl26d hl56d
 refine Reg.wI [19] [20, 21] rfl fun Qf hQf => ?_
 go_wp2_with fail
 first | refine hQf _ _ ⟨rfl, ?_⟩ | refine ⟨rfl, ?_⟩ | refine hQf _ _ ⟨by simp [Reg.fineT, Reg.intOp, Region.wanted, yielded, Reg.intFine, Reg.isInt, Act.eval], ?_⟩
 try clear hQf
 refine Reg.aI 20 [21] [] rfl fun Qf hQf => ?_
 simp only [gT, gS, gZ]
 go_wp2_with (go_at_call 24; refine (first_any (l := [idxE r.pf (p.states.length : Int), idxE r.pt (p.states.length : Int), whenE (decide (r.dir < 3) || decide (4 < r.dir)) 1]) hSz.out).mono ?_; rintro e w' ⟨rfl, rfl⟩; rw [hgez.out])
 first | refine hQf _ _ ⟨Reg.nm, ?_⟩ | refine ⟨Reg.nm, ?_⟩
 try clear hQf
 refine Reg.wI [21] [] rfl fun Qf hQf => ?_
 go_wp2_with fail
 first | refine hQf _ _ ⟨rfl, ?_⟩ | refine ⟨rfl, ?_⟩ | refine hQf _ _ ⟨by simp [Reg.fineT, Reg.intOp, Region.wanted, yielded, Reg.intFine, Reg.isInt, Act.eval], ?_⟩
 try clear hQf
 first | refine Reg.restI_end ?_ | skip
 go_wp2_with fail
 go_ret
 exact ⟨rfl, hb0z.out⟩
theorem re_k52a {w : World} {cs : List Value} {p : ProtD} {r : RuleD} {i : Nat} (h : ProtIs w w.heap.size cs p) (hr : p.rules[i]? = some r) (hs : r.Small) (hnm : r.name.size ≤ 9223372036854775807) (hT : SpOK w) (hok : Hid (nameOK r.name = true)) (htk : Hid (((p.rules.take i).any fun x => decide (x.name = r.name)) = false)) (hfit : Hid (fitsP r.kind p.topo = true)) (hsur : Hid (surplusP p.topo r = false)) (hidx : Hid (orE (idxE r.fr (p.states.length : Int)) (idxE r.to (p.states.length : Int)) = 0)) (hkd : r.kind = 5) (ht : ¬ p.topo = 4) (ha : r.dir < 1) :
  Calls Tryd.prog 40 #[.agg cs.toArray, .int .i64 (i : Int)] w (Ret fun v w' => v = .int .i64 (kindP p.topo (p.states.length : Int) (p.messages.length : Int) (p.values.length : Int) r) ∧ Below w.heap.size w w') := by
 obtain ⟨A1, c1, A2, c2, A3, c3, A4, c4, A5, c5, A6, c6, A7, c7, E1, f1, E2, f2, E3, f3, E4, f4, E5, f5, E6, f6, E7, f7, E8, f8, b, off, w1, w2, hn7, hcap, hil, rfl, rfl, hw1, hc21, hlc, hsc, hX2, hrows2, hcnH, hlt5, hb02, htlH, hbk⟩ := re_head h hr hT
 replace hrows2 := hide hrows2
 replace hcnH := hide hcnH
 replace hb02 := hide hb02
 replace htlH := hide htlH
 have hX2H := hide hX2
 have hc22 := hX2.b2.cell
 have hc52 := hX2.b5.cell
 have hl22 := hX2.load2 rfl
 have hl52 := hX2.load5 rfl
 clear hX2 hT h
 have hcf := hide (containsFunc_any (c := c7) hrows2.out hcnH.out hlt5)
 rw [htlH.out] at hcf
 go_enter Tryd.func40, Tryd.ntmps40
 have hm := hide (show (if p.topo = 4 then decide (r.dir < 3) || decide (4 < r.dir) else decide (r.dir < 1) || decide (2 < r.dir)) = true from by simp [ht, ha])
 have e1 : (r.kind == 1) = false := by simp [hkd]
 have e2 : (r.kind == 2) = false := by simp [hkd]
 have e3 : (r.kind == 3) = false := by simp [hkd]
 have e4 : (r.kind == 4) = false := by simp [hkd]
 have hkdH := hide hkd
 clear hkd
 have et : (p.topo == 4) = false := by simp [ht]
 go_wp2_with (first
  | (go_at_call 62; refine Calls.ret hcf.out ?_; rintro v w3 ⟨rfl, hb3⟩; rw [htk.out]; have hX3 := hX2H.out.at hb3; have hc23 := hX3.b2.cell; have hc53 := hX3.b5.cell; have hl23 := hX3.load2 rfl; have hl53 := hX3.load5 rfl; have hX3H := hide hX3; have hb03 := hide (hb02.out.trans (hb3.mono hb02.out.size)); clear hb3 hX3 hc22 hc52 hl22 hl52)
  | (go_at_call 21; refine Calls.ret (validName_any r.name w3 hnm hX3H.out.tab) ?_; rintro v w4 ⟨rfl, hb4⟩; rw [hok.out]; have hX4 := hX3H.out.at hb4; have hc24 := hX4.b2.cell; have hc54 := hX4.b5.cell; have hl24 := hX4.load2 rfl; have hl54 := hX4.load5 rfl; have hX4H := hide hX4; have hb04 := hide (hb03.out.trans (hb4.mono hb03.out.size)); clear hb4 hX4 hc23 hc53 hl23 hl53)
  | (go_at_call 64; refine (fits_any _ _ _).mono ?_; rintro e w' ⟨rfl, rfl⟩; rw [hfit.out])
  | (go_at_call 65; refine Calls.ret (surplus_any hX4H.out.ru hs) ?_; rintro v w5 ⟨rfl, hb5⟩; rw [hsur.out]; have hX5 := hX4H.out.at hb5; have hc25 := hX5.b2.cell; have hc55 := hX5.b5.cell; have hl25 := hX5.load2 rfl; have hl55 := hX5.load5 rfl; have hX5H := hide hX5; have hb05 := hide (hb04.out.trans (hb5.mono hb04.out.size)); clear hb5 hX5 hc24 hc54 hl24 hl54))
 have hge6 := hide (show allE id [idxE r.fr (p.states.length : Int), idxE r.to (p.states.length : Int)] = 0 from by simp [allE, orE_self0]; exact hidx.out)
 have hX5d := hX5H.out.at (drewB w5)
 have hc25d := hX5d.b2.cell
 have hc55d := hX5d.b5.cell
 have hl25d := hX5d.load2 rfl
 have hl55d := hX5d.load5 rfl
 have hX5dH := hide hX5d
 have hb05d := hide (hb05.out.trans ((drewB w5).mono hb05.out.size))
 clear hX5d hc25 hc55 hl25 hl55
 refine Reg.cI [0, 1, 0, 7, 0, 16, 0, 127, 255, 511, 1023] [0, 1, 2, 4, 5, 6, 3, 7, 8, 9, 10] ?_
 refine Reg.wI [0, 1, 2, 4, 5, 6] [3, 7, 8, 9, 10] rfl fun Qf hQf => ?_
 go_wp2_with fail
 first | refine hQf _ _ ⟨rfl, ?_⟩ | refine ⟨rfl, ?_⟩ | refine hQf _ _ ⟨by simp [Reg.fineT, Reg.intOp, Region.wanted, yielded, Reg.intFine, Reg.isInt, Act.eval], ?_⟩
 try clear hQf
 refine Reg.aI 3 [7, 8, 9, 10] [5] rfl fun Qf hQf => ?_
 simp only [gT, gS, gZ]
 go_wp2_with (go_at_call 44; refine (index_any _ _ _).mono ?_; rintro e w' ⟨rfl, rfl⟩)
 first | refine hQf _ _ ⟨Reg.same_below (Below.refl _ _) [5] rfl, ?_⟩ | refine ⟨Reg.same_below (Below.refl _ _) [5] rfl, ?_⟩
 try clear hQf
 refine Reg.aI 7 [8, 9, 10] [] rfl fun Qf hQf => ?_
 simp only [gT, gS, gZ]
 go_wp2_with (go_at_call 44; refine (index_any _ _ _).mono ?_; rintro e w' ⟨rfl, rfl⟩)
 first | refine hQf _ _ ⟨Reg.nm, ?_⟩ | refine ⟨Reg.nm, ?_⟩
 try clear hQf
 obtain ⟨w6, hw6, hb6, hB6, hk6⟩ := box_blk w5.drew #[.int .i64 (idxE r.fr (p.states.length : Int)), .int .i64 (idxE r.to (p.states.length : Int))] 33
 have hS6 := hide (errs_sl (l := [idxE r.fr (p.states.length : Int), idxE r.to (p.states.length : Int)]) hB6 (by simp))
 have hq6 : Below w5.drew.heap.size w5.drew w6 := hb6
 clear hB6 hk6 hb6
 have hX6 := hX5dH.out.at hq6
 have hc26 := hX6.b2.cell
 have hc56 := hX6.b5.cell
 have hl26 := hX6.load2 rfl
 have hl56 := hX6.load5 rfl
 have hX6H := hide hX6
 have hb06 := hide (hb05d.out.trans (hq6.mono hb05d.out.size))
 clear hq6 hX6 hc25d hc55d hl25d hl55d
 refine Reg.wI [8] [9, 10] rfl fun Qf hQf => ?_
 go_wp2_with fail
 first | refine hQf _ _ ⟨rfl, ?_⟩ | refine ⟨rfl, ?_⟩ | refine hQf _ _ ⟨by simp [Reg.fineT, Reg.intOp, Region.wanted, yielded, Reg.intFine, Reg.isInt, Act.eval], ?_⟩
 try clear hQf
 refine Reg.aI 9 [10] [] rfl fun Qf hQf => ?_
 simp only [gT, gS, gZ]
 go_wp2_with (go_at_call 24; refine (first_any (l := [idxE r.fr (p.states.length : Int), idxE r.to (p.states.length : Int)]) hS6.out).mono ?_; rintro e w' ⟨rfl, rfl⟩; rw [hge6.out])
 first | refine hQf _ _ ⟨Reg.nm, ?_⟩ | refine ⟨Reg.nm, ?_⟩
 try clear hQf
 refine Reg.wI [10] [] rfl fun Qf hQf => ?_
 go_wp2_with fail
 first | refine hQf _ _ ⟨rfl, ?_⟩ | refine ⟨rfl, ?_⟩ | refine hQf _ _ ⟨by simp [Reg.fineT, Reg.intOp, Region.wanted, yielded, Reg.intFine, Reg.isInt, Act.eval], ?_⟩
 try clear hQf
 first | refine Reg.restI_end ?_ | skip
 go_wp2_with fail
 have hgez := hide (show allE id [idxE r.pf (p.states.length : Int), idxE r.pt (p.states.length : Int), whenE true 1] = kindP p.topo (p.states.length : Int) (p.messages.length : Int) (p.values.length : Int) r from by rw [← hm.out]; simp [allE, orE_self0, kindP, hkdH.out])
 have hX6d := hX6H.out.at (drewB w6)
 have hc26d := hX6d.b2.cell
 have hc56d := hX6d.b5.cell
 have hl26d := hX6d.load2 rfl
 have hl56d := hX6d.load5 rfl
 have hX6dH := hide hX6d
 have hb06d := hide (hb06.out.trans ((drewB w6).mono hb06.out.size))
 clear hX6d hc26 hc56 hl26 hl56
 refine Reg.cI [0, 1, 0, 7, 0, 16, 0, 127, 0, 256, 0, 1792, 4095, 8191, 16383, 8191, 65535, 131071, 262143, 524287, 1048575, 2097151] [0, 1, 2, 4, 5, 6, 8, 9, 10, 11, 3, 7, 12, 13, 14, 15, 16, 17, 18, 19, 20, 21] ?_
 refine Reg.wI [0, 1, 2, 4, 5, 6, 8, 9, 10, 11] [3, 7, 12, 13, 14, 15, 16, 17, 18, 19, 20, 21] rfl fun Qf hQf => ?_
 go_wp2_with fail
 first | refine hQf _ _ ⟨rfl, ?_⟩ | refine ⟨rfl, ?_⟩ | refine hQf _ _ ⟨by simp [Reg.fineT, Reg.intOp, Region.wanted, yielded, Reg.intFine, Reg.isInt, Act.eval], ?_⟩
 try clear hQf
 refine Reg.aI 3 [7, 12, 13, 14, 15, 16, 17, 18, 19, 20, 21] [5, 9] rfl fun Qf hQf => ?_
 simp only [gT, gS, gZ]
 go_wp2_with (go_at_call 44; refine (index_any _ _ _).mono ?_; rintro e w' ⟨rfl, rfl⟩)
 first | refine hQf _ _ ⟨Reg.same_below (Below.refl _ _) [5, 9] rfl, ?_⟩ | refine ⟨Reg.same_below (Below.refl _ _) [5, 9] rfl, ?_⟩
 try clear hQf
 refine Reg.aI 7 [12, 13, 14, 15, 16, 17, 18, 19, 20, 21] [9] rfl fun Qf hQf => ?_
 simp only [gT, gS, gZ]
 go_wp2_with (go_at_call 44; refine (index_any _ _ _).mono ?_; rintro e w' ⟨rfl, rfl⟩)
 first | refine hQf _ _ ⟨Reg.same_below (Below.refl _ _) [9] rfl, ?_⟩ | refine ⟨Reg.same_below (Below.refl _ _) [9] rfl, ?_⟩
 try clear hQf
 refine Reg.wI [12, 13, 14, 15, 16, 17] [18, 19, 20, 21] rfl fun Qf hQf => ?_
 go_wp2_with fail
 first | refine hQf _ _ ⟨rfl, ?_⟩ | refine ⟨rfl, ?_⟩ | refine hQf _ _ ⟨by simp [Reg.fineT, Reg.intOp, Region.wanted, yielded, Reg.intFine, Reg.isInt, Act.eval], ?_⟩
 try clear hQf
 refine Reg.aI 18 [19, 20, 21] [] rfl fun Qf hQf => ?_
 simp only [gT, gS, gZ]
 go_wp2_with (go_at_call 25; refine (when_any _ _ _).mono ?_; rintro e w' ⟨rfl, rfl⟩)
 first | refine hQf _ _ ⟨Reg.nm, ?_⟩ | refine ⟨Reg.nm, ?_⟩
 try clear hQf
 obtain ⟨wz, hwz, hbz, hBz, hkz⟩ := box_blk w6.drew #[.int .i64 (idxE r.pf (p.states.length : Int)), .int .i64 (idxE r.pt (p.states.length : Int)), .int .i64 (whenE true 1)] 33
 have hSz := hide (errs_sl (l := [idxE r.pf (p.states.length : Int), idxE r.pt (p.states.length : Int), whenE true 1]) hBz (by simp))
 have hqz : Below w6.drew.heap.size w6.drew wz := hbz
 clear hBz hkz hbz
 have hXz := hX6dH.out.at hqz
 have hc2z := hXz.b2.cell
 have hc5z := hXz.b5.cell
 have hl2z := hXz.load2 rfl
 have hl5z := hXz.load5 rfl
 have hXzH := hide hXz
 have hb0z := hide (hb06d.out.trans (hqz.mono hb06d.out.size))
 clear hqz hXz hc26d hc56d hl26d hl56d
 refine Reg.wI [19] [20, 21] rfl fun Qf hQf => ?_
 go_wp2_with fail
 first | refine hQf _ _ ⟨rfl, ?_⟩ | refine ⟨rfl, ?_⟩ | refine hQf _ _ ⟨by simp [Reg.fineT, Reg.intOp, Region.wanted, yielded, Reg.intFine, Reg.isInt, Act.eval], ?_⟩
 try clear hQf
 refine Reg.aI 20 [21] [] rfl fun Qf hQf => ?_
 simp only [gT, gS, gZ]
 go_wp2_with (go_at_call 24; refine (first_any (l := [idxE r.pf (p.states.length : Int), idxE r.pt (p.states.length : Int), whenE true 1]) hSz.out).mono ?_; rintro e w' ⟨rfl, rfl⟩; rw [hgez.out])
 first | refine hQf _ _ ⟨Reg.nm, ?_⟩ | refine ⟨Reg.nm, ?_⟩
 try clear hQf
 refine Reg.wI [21] [] rfl fun Qf hQf => ?_
 go_wp2_with fail
 first | refine hQf _ _ ⟨rfl, ?_⟩ | refine ⟨rfl, ?_⟩ | refine hQf _ _ ⟨by simp [Reg.fineT, Reg.intOp, Region.wanted, yielded, Reg.intFine, Reg.isInt, Act.eval], ?_⟩
 try clear hQf
 first | refine Reg.restI_end ?_ | skip
 go_wp2_with fail
 go_ret
 exact ⟨rfl, hb0z.out⟩
theorem re_k52b {w : World} {cs : List Value} {p : ProtD} {r : RuleD} {i : Nat} (h : ProtIs w w.heap.size cs p) (hr : p.rules[i]? = some r) (hs : r.Small) (hnm : r.name.size ≤ 9223372036854775807) (hT : SpOK w) (hok : Hid (nameOK r.name = true)) (htk : Hid (((p.rules.take i).any fun x => decide (x.name = r.name)) = false)) (hfit : Hid (fitsP r.kind p.topo = true)) (hsur : Hid (surplusP p.topo r = false)) (hidx : Hid (orE (idxE r.fr (p.states.length : Int)) (idxE r.to (p.states.length : Int)) = 0)) (hkd : r.kind = 5) (ht : ¬ p.topo = 4) (ha : ¬ r.dir < 1) :
  Calls Tryd.prog 40 #[.agg cs.toArray, .int .i64 (i : Int)] w (Ret fun v w' => v = .int .i64 (kindP p.topo (p.states.length : Int) (p.messages.length : Int) (p.values.length : Int) r) ∧ Below w.heap.size w w') := by
 obtain ⟨A1, c1, A2, c2, A3, c3, A4, c4, A5, c5, A6, c6, A7, c7, E1, f1, E2, f2, E3, f3, E4, f4, E5, f5, E6, f6, E7, f7, E8, f8, b, off, w1, w2, hn7, hcap, hil, rfl, rfl, hw1, hc21, hlc, hsc, hX2, hrows2, hcnH, hlt5, hb02, htlH, hbk⟩ := re_head h hr hT
 replace hrows2 := hide hrows2
 replace hcnH := hide hcnH
 replace hb02 := hide hb02
 replace htlH := hide htlH
 have hX2H := hide hX2
 have hc22 := hX2.b2.cell
 have hc52 := hX2.b5.cell
 have hl22 := hX2.load2 rfl
 have hl52 := hX2.load5 rfl
 clear hX2 hT h
 have hcf := hide (containsFunc_any (c := c7) hrows2.out hcnH.out hlt5)
 rw [htlH.out] at hcf
 go_enter Tryd.func40, Tryd.ntmps40
 have hm := hide (show (if p.topo = 4 then decide (r.dir < 3) || decide (4 < r.dir) else decide (r.dir < 1) || decide (2 < r.dir)) = (decide (r.dir < 1) || decide (2 < r.dir)) from by simp [ht, ha])
 have e1 : (r.kind == 1) = false := by simp [hkd]
 have e2 : (r.kind == 2) = false := by simp [hkd]
 have e3 : (r.kind == 3) = false := by simp [hkd]
 have e4 : (r.kind == 4) = false := by simp [hkd]
 have hkdH := hide hkd
 clear hkd
 have et : (p.topo == 4) = false := by simp [ht]
 go_wp2_with (first
  | (go_at_call 62; refine Calls.ret hcf.out ?_; rintro v w3 ⟨rfl, hb3⟩; rw [htk.out]; have hX3 := hX2H.out.at hb3; have hc23 := hX3.b2.cell; have hc53 := hX3.b5.cell; have hl23 := hX3.load2 rfl; have hl53 := hX3.load5 rfl; have hX3H := hide hX3; have hb03 := hide (hb02.out.trans (hb3.mono hb02.out.size)); clear hb3 hX3 hc22 hc52 hl22 hl52)
  | (go_at_call 21; refine Calls.ret (validName_any r.name w3 hnm hX3H.out.tab) ?_; rintro v w4 ⟨rfl, hb4⟩; rw [hok.out]; have hX4 := hX3H.out.at hb4; have hc24 := hX4.b2.cell; have hc54 := hX4.b5.cell; have hl24 := hX4.load2 rfl; have hl54 := hX4.load5 rfl; have hX4H := hide hX4; have hb04 := hide (hb03.out.trans (hb4.mono hb03.out.size)); clear hb4 hX4 hc23 hc53 hl23 hl53)
  | (go_at_call 64; refine (fits_any _ _ _).mono ?_; rintro e w' ⟨rfl, rfl⟩; rw [hfit.out])
  | (go_at_call 65; refine Calls.ret (surplus_any hX4H.out.ru hs) ?_; rintro v w5 ⟨rfl, hb5⟩; rw [hsur.out]; have hX5 := hX4H.out.at hb5; have hc25 := hX5.b2.cell; have hc55 := hX5.b5.cell; have hl25 := hX5.load2 rfl; have hl55 := hX5.load5 rfl; have hX5H := hide hX5; have hb05 := hide (hb04.out.trans (hb5.mono hb04.out.size)); clear hb5 hX5 hc24 hc54 hl24 hl54))
 have hge6 := hide (show allE id [idxE r.fr (p.states.length : Int), idxE r.to (p.states.length : Int)] = 0 from by simp [allE, orE_self0]; exact hidx.out)
 have hX5d := hX5H.out.at (drewB w5)
 have hc25d := hX5d.b2.cell
 have hc55d := hX5d.b5.cell
 have hl25d := hX5d.load2 rfl
 have hl55d := hX5d.load5 rfl
 have hX5dH := hide hX5d
 have hb05d := hide (hb05.out.trans ((drewB w5).mono hb05.out.size))
 clear hX5d hc25 hc55 hl25 hl55
 refine Reg.cI [0, 1, 0, 7, 0, 16, 0, 127, 255, 511, 1023] [0, 1, 2, 4, 5, 6, 3, 7, 8, 9, 10] ?_
 refine Reg.wI [0, 1, 2, 4, 5, 6] [3, 7, 8, 9, 10] rfl fun Qf hQf => ?_
 go_wp2_with fail
 first | refine hQf _ _ ⟨rfl, ?_⟩ | refine ⟨rfl, ?_⟩ | refine hQf _ _ ⟨by simp [Reg.fineT, Reg.intOp, Region.wanted, yielded, Reg.intFine, Reg.isInt, Act.eval], ?_⟩
 try clear hQf
 refine Reg.aI 3 [7, 8, 9, 10] [5] rfl fun Qf hQf => ?_
 simp only [gT, gS, gZ]
 go_wp2_with (go_at_call 44; refine (index_any _ _ _).mono ?_; rintro e w' ⟨rfl, rfl⟩)
 first | refine hQf _ _ ⟨Reg.same_below (Below.refl _ _) [5] rfl, ?_⟩ | refine ⟨Reg.same_below (Below.refl _ _) [5] rfl, ?_⟩
 try clear hQf
 refine Reg.aI 7 [8, 9, 10] [] rfl fun Qf hQf => ?_
 simp only [gT, gS, gZ]
 go_wp2_with (go_at_call 44; refine (index_any _ _ _).mono ?_; rintro e w' ⟨rfl, rfl⟩)
 first | refine hQf _ _ ⟨Reg.nm, ?_⟩ | refine ⟨Reg.nm, ?_⟩
 try clear hQf
 obtain ⟨w6, hw6, hb6, hB6, hk6⟩ := box_blk w5.drew #[.int .i64 (idxE r.fr (p.states.length : Int)), .int .i64 (idxE r.to (p.states.length : Int))] 33
 have hS6 := hide (errs_sl (l := [idxE r.fr (p.states.length : Int), idxE r.to (p.states.length : Int)]) hB6 (by simp))
 have hq6 : Below w5.drew.heap.size w5.drew w6 := hb6
 clear hB6 hk6 hb6
 have hX6 := hX5dH.out.at hq6
 have hc26 := hX6.b2.cell
 have hc56 := hX6.b5.cell
 have hl26 := hX6.load2 rfl
 have hl56 := hX6.load5 rfl
 have hX6H := hide hX6
 have hb06 := hide (hb05d.out.trans (hq6.mono hb05d.out.size))
 clear hq6 hX6 hc25d hc55d hl25d hl55d
 refine Reg.wI [8] [9, 10] rfl fun Qf hQf => ?_
 go_wp2_with fail
 first | refine hQf _ _ ⟨rfl, ?_⟩ | refine ⟨rfl, ?_⟩ | refine hQf _ _ ⟨by simp [Reg.fineT, Reg.intOp, Region.wanted, yielded, Reg.intFine, Reg.isInt, Act.eval], ?_⟩
 try clear hQf
 refine Reg.aI 9 [10] [] rfl fun Qf hQf => ?_
 simp only [gT, gS, gZ]
 go_wp2_with (go_at_call 24; refine (first_any (l := [idxE r.fr (p.states.length : Int), idxE r.to (p.states.length : Int)]) hS6.out).mono ?_; rintro e w' ⟨rfl, rfl⟩; rw [hge6.out])
 first | refine hQf _ _ ⟨Reg.nm, ?_⟩ | refine ⟨Reg.nm, ?_⟩
 try clear hQf
 refine Reg.wI [10] [] rfl fun Qf hQf => ?_
 go_wp2_with fail
 first | refine hQf _ _ ⟨rfl, ?_⟩ | refine ⟨rfl, ?_⟩ | refine hQf _ _ ⟨by simp [Reg.fineT, Reg.intOp, Region.wanted, yielded, Reg.intFine, Reg.isInt, Act.eval], ?_⟩
 try clear hQf
 first | refine Reg.restI_end ?_ | skip
 go_wp2_with fail
 have hgez := hide (show allE id [idxE r.pf (p.states.length : Int), idxE r.pt (p.states.length : Int), whenE (decide (r.dir < 1) || decide (2 < r.dir)) 1] = kindP p.topo (p.states.length : Int) (p.messages.length : Int) (p.values.length : Int) r from by rw [← hm.out]; simp [allE, orE_self0, kindP, hkdH.out])
 have hX6d := hX6H.out.at (drewB w6)
 have hc26d := hX6d.b2.cell
 have hc56d := hX6d.b5.cell
 have hl26d := hX6d.load2 rfl
 have hl56d := hX6d.load5 rfl
 have hX6dH := hide hX6d
 have hb06d := hide (hb06.out.trans ((drewB w6).mono hb06.out.size))
 clear hX6d hc26 hc56 hl26 hl56
 refine Reg.cI [0, 1, 0, 7, 0, 16, 0, 127, 0, 256, 0, 1792, 4095, 8191, 16383, 8191, 65535, 131071, 262143, 524287, 1048575, 2097151] [0, 1, 2, 4, 5, 6, 8, 9, 10, 11, 3, 7, 12, 13, 14, 15, 16, 17, 18, 19, 20, 21] ?_
 refine Reg.wI [0, 1, 2, 4, 5, 6, 8, 9, 10, 11] [3, 7, 12, 13, 14, 15, 16, 17, 18, 19, 20, 21] rfl fun Qf hQf => ?_
 go_wp2_with fail
 first | refine hQf _ _ ⟨rfl, ?_⟩ | refine ⟨rfl, ?_⟩ | refine hQf _ _ ⟨by simp [Reg.fineT, Reg.intOp, Region.wanted, yielded, Reg.intFine, Reg.isInt, Act.eval], ?_⟩
 try clear hQf
 refine Reg.aI 3 [7, 12, 13, 14, 15, 16, 17, 18, 19, 20, 21] [5, 9] rfl fun Qf hQf => ?_
 simp only [gT, gS, gZ]
 go_wp2_with (go_at_call 44; refine (index_any _ _ _).mono ?_; rintro e w' ⟨rfl, rfl⟩)
 first | refine hQf _ _ ⟨Reg.same_below (Below.refl _ _) [5, 9] rfl, ?_⟩ | refine ⟨Reg.same_below (Below.refl _ _) [5, 9] rfl, ?_⟩
 try clear hQf
 refine Reg.aI 7 [12, 13, 14, 15, 16, 17, 18, 19, 20, 21] [9] rfl fun Qf hQf => ?_
 simp only [gT, gS, gZ]
 go_wp2_with (go_at_call 44; refine (index_any _ _ _).mono ?_; rintro e w' ⟨rfl, rfl⟩)
 first | refine hQf _ _ ⟨Reg.same_below (Below.refl _ _) [9] rfl, ?_⟩ | refine ⟨Reg.same_below (Below.refl _ _) [9] rfl, ?_⟩
 try clear hQf
 refine Reg.wI [12, 13, 14, 15, 16, 17] [18, 19, 20, 21] rfl fun Qf hQf => ?_
 go_wp2_with fail
 first | refine hQf _ _ ⟨rfl, ?_⟩ | refine ⟨rfl, ?_⟩ | refine hQf _ _ ⟨by simp [Reg.fineT, Reg.intOp, Region.wanted, yielded, Reg.intFine, Reg.isInt, Act.eval], ?_⟩
 try clear hQf
 refine Reg.aI 18 [19, 20, 21] [] rfl fun Qf hQf => ?_
 simp only [gT, gS, gZ]
 go_wp2_with (go_at_call 25; refine (when_any _ _ _).mono ?_; rintro e w' ⟨rfl, rfl⟩)
 first | refine hQf _ _ ⟨Reg.nm, ?_⟩ | refine ⟨Reg.nm, ?_⟩
 try clear hQf
 obtain ⟨wz, hwz, hbz, hBz, hkz⟩ := box_blk w6.drew #[.int .i64 (idxE r.pf (p.states.length : Int)), .int .i64 (idxE r.pt (p.states.length : Int)), .int .i64 (whenE (decide (r.dir < 1) || decide (2 < r.dir)) 1)] 33
 have hSz := hide (errs_sl (l := [idxE r.pf (p.states.length : Int), idxE r.pt (p.states.length : Int), whenE (decide (r.dir < 1) || decide (2 < r.dir)) 1]) hBz (by simp))
 have hqz : Below w6.drew.heap.size w6.drew wz := hbz
 clear hBz hkz hbz
 have hXz := hX6dH.out.at hqz
 have hc2z := hXz.b2.cell
 have hc5z := hXz.b5.cell
 have hl2z := hXz.load2 rfl
 have hl5z := hXz.load5 rfl
 have hXzH := hide hXz
 have hb0z := hide (hb06d.out.trans (hqz.mono hb06d.out.size))
 clear hqz hXz hc26d hc56d hl26d hl56d
 refine Reg.wI [19] [20, 21] rfl fun Qf hQf => ?_
 go_wp2_with fail
 first | refine hQf _ _ ⟨rfl, ?_⟩ | refine ⟨rfl, ?_⟩ | refine hQf _ _ ⟨by simp [Reg.fineT, Reg.intOp, Region.wanted, yielded, Reg.intFine, Reg.isInt, Act.eval], ?_⟩
 try clear hQf
 refine Reg.aI 20 [21] [] rfl fun Qf hQf => ?_
 simp only [gT, gS, gZ]
 go_wp2_with (go_at_call 24; refine (first_any (l := [idxE r.pf (p.states.length : Int), idxE r.pt (p.states.length : Int), whenE (decide (r.dir < 1) || decide (2 < r.dir)) 1]) hSz.out).mono ?_; rintro e w' ⟨rfl, rfl⟩; rw [hgez.out])
 first | refine hQf _ _ ⟨Reg.nm, ?_⟩ | refine ⟨Reg.nm, ?_⟩
 try clear hQf
 refine Reg.wI [21] [] rfl fun Qf hQf => ?_
 go_wp2_with fail
 first | refine hQf _ _ ⟨rfl, ?_⟩ | refine ⟨rfl, ?_⟩ | refine hQf _ _ ⟨by simp [Reg.fineT, Reg.intOp, Region.wanted, yielded, Reg.intFine, Reg.isInt, Act.eval], ?_⟩
 try clear hQf
 first | refine Reg.restI_end ?_ | skip
 go_wp2_with fail
 go_ret
 exact ⟨rfl, hb0z.out⟩
end Go.Proofs.YtbjdgepfhhafjaaDoor
