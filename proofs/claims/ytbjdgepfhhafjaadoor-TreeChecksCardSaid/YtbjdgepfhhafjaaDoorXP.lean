/-
  Part XP of a proof.
-/
import Derived.Test.YtbjdgepfhhafjaaDoorXA
import Derived.Test.YtbjdgepfhhafjaaDoorXO
import Derived.Test.YtbjdgepfhhafjaaDoorXK
import Derived.Test.YtbjdgepfhhafjaaDoorXJ
set_option maxHeartbeats 16000000
set_option maxRecDepth 100000
set_option linter.unusedVariables false
set_option linter.unusedSimpArgs false
namespace Go.Proofs.YtbjdgepfhhafjaaDoor
open Go.RowKit
attribute [-go_sem] loadCellsFrom storeCells
theorem refValidate_c {w : World} {cs : List Value} {p : ProtD} (h : ProtIs w w.heap.size cs p) (hsm : p.Small) (hT : SpOK w) (hct : p.topo = 1) :
  Calls Tryd.prog 28 #[.agg cs.toArray] w (Ret fun v w' => v = .int .i64 (protE nameOK p) ∧ Below w.heap.size w w') := by
 obtain ⟨A1, c1, A2, c2, A3, c3, A4, c4, A5, c5, A6, c6, A7, c7, hpsz, hp0, hp1, hp2, hp3, hp4, hp5, hp6, hp7, hp8, hp9, h1, h2, h3, h4, h5, h6, h7, hcap⟩ := h.cells
 have hn1 := hsm.states
 have hn2 := hsm.messages
 have hn3 := hsm.values
 have hn4 := hsm.res
 have hn5 := hsm.initial
 have hn6 := hsm.leader
 have hn7 := hsm.rules
 have hnm := hsm.name
 have hsmH := hide hsm
 have hS1 := hide h1
 have hS2 := hide h2
 have hS3 := hide h3
 have hRows := hide h7
 have hS4 := hide h4
 have hS5 := hide h5
 have hS6 := hide h6
 obtain ⟨w1, hw1, hb1, hB1, hk1⟩ := box_blk w cs.toArray 27
 have hX1 := hide (show ProtX w1 w.heap.size cs.toArray p from ⟨h.keep (fun _ hp => hb1.cell hp) hb1.size, hB1, hT.below hb1⟩)
 have hbH := hide hb1
 generalize hpc : cs.toArray = pc at *
 clear h1 h2 h3 h4 h5 h6 h7 h hsm hb1 hB1 hk1 hpc hT
 obtain ⟨nr, hnr⟩ : ∃ n, n = p.res.length := ⟨_, rfl⟩
 obtain ⟨nm, hnmm⟩ : ∃ n, n = p.messages.length := ⟨_, rfl⟩
 obtain ⟨nv, hnv⟩ : ∃ n, n = p.values.length := ⟨_, rfl⟩
 obtain ⟨nl, hnl⟩ : ∃ n, n = p.leader.length := ⟨_, rfl⟩
 obtain ⟨ni, hni⟩ : ∃ n, n = p.initial.length := ⟨_, rfl⟩
 obtain ⟨ns, hns⟩ : ∃ n, n = p.states.length := ⟨_, rfl⟩
 obtain ⟨nu, hnu⟩ : ∃ n, n = p.rules.length := ⟨_, rfl⟩
 have hLH := hide (show nr = p.res.length ∧ nm = p.messages.length ∧ nv = p.values.length ∧ nl = p.leader.length ∧ ni = p.initial.length ∧ ns = p.states.length ∧ nu = p.rules.length from ⟨hnr, hnmm, hnv, hnl, hni, hns, hnu⟩)
 simp only [← hnr, ← hnmm, ← hnv, ← hnl, ← hni, ← hns, ← hnu] at hp2 hp3 hp4 hp6 hp7 hp8 hp9 hn1 hn2 hn3 hn4 hn5 hn6 hn7 hcap
 clear hnr hnmm hnv hnl hni hns hnu
 obtain ⟨kt, hkt⟩ : ∃ n, n = p.topo := ⟨_, rfl⟩
 obtain ⟨kf, hkf⟩ : ∃ n, n = p.fault := ⟨_, rfl⟩
 have hKH := hide (show kt = p.topo ∧ kf = p.fault from ⟨hkt, hkf⟩)
 simp only [← hkt, ← hkf] at hp1 hp5
 clear hkt hkf
 have hpszH := hide hpsz
 clear hpsz
 have hc1 := hX1.out.b.cell
 have hKt : Hid (kt = 1) := by rw [← hKH.out.1] at hct; exact hct
 have hq1 : (kt == 1) = true := by simp [hKt.out]
 have hq2 : (kt != 1) = false := by simp [hKt.out]
 clear hct
 have hb01 := hbH
 obtain ⟨e0, he0⟩ : ∃ e, Hid (namesE nameOK (names3 p) = e) := ⟨_, rfl⟩
 cases hok : nameOK p.name
 case false =>
  have hokH := hide hok
  clear hok
  go_enter Tryd.func28, Tryd.ntmps28
  go_wp2_with fail
  refine Calls.ret (refValidName_any p.name _ (by omega)) ?_; rintro v w2 ⟨rfl, hb2⟩; rw [hokH.out]; have hb02 := hide (hb01.out.trans (hb2.mono hb01.out.size)); clear hb2; go_wp2_with fail
  go_ret
  exact ⟨by unfold protE; rw [hokH.out]; rfl, hb02.out⟩
 have hokH := hide hok
 clear hok
 have hP := hide (show protE nameOK p = protV kt kf ns nm nv nr nu nl e0 (restR p) from by
  obtain ⟨e1, e2, e3, e4, e5, e6, e7⟩ := hLH.out
  obtain ⟨f1, f2⟩ := hKH.out
  rw [e1, e2, e3, e4, e6, e7, f1, f2, ← he0.out]
  exact protE_V p hokH.out)
 have hinit : ∀ wx, Below w.heap.size w wx → Calls Tryd.prog 30 #[.slice A5 ni c5, .int .i64 (ns : Int)] wx (Ret fun r w' => r = .int .i64 (setE p.initial (ns : Int)) ∧ Below wx.heap.size wx w') := fun wx hx => by
  rw [hLH.out.2.2.2.2.1]
  exact refset_any (by omega) (hS5.out.keep (fun _ hp => hx.cell hp) hx.size)
 have hlead : ∀ wx, Below w.heap.size w wx → Calls Tryd.prog 30 #[.slice A6 nl c6, .int .i64 (ns : Int)] wx (Ret fun r w' => r = .int .i64 (setE p.leader (ns : Int)) ∧ Below wx.heap.size wx w') := fun wx hx => by
  rw [hLH.out.2.2.2.1]
  exact refset_any (by omega) (hS6.out.keep (fun _ hp => hx.cell hp) hx.size)
 go_enter Tryd.func28, Tryd.ntmps28
 go_wp2_with fail
 refine Calls.ret (refValidName_any p.name _ (by omega)) ?_; rintro v w2 ⟨rfl, hb2⟩; rw [hokH.out]; have hX2 := hide (hX1.out.at hb2); have hc2 := hX2.out.b.cell; have hl2 := blk_load hX2.out.b hpszH.out; have hb02 := hide (hb01.out.trans (hb2.mono hb01.out.size)); clear hb2; go_wp2_with fail
 cases htp : inC kt 1 4
 case false =>
  have Ftp := hide htp
  clear htp
  refine (within2_any _ _ _ _).mono ?_; rintro e w' ⟨rfl, rfl⟩; rw [Ftp.out]; go_wp2_with fail
  go_ret
  exact ⟨congrArg (Value.int .i64) (hP.out.trans (pv2 (by have h1 := Ftp.out; simp [inC] at h1; omega))).symm, hb02.out⟩
 have Ftp := hide htp
 clear htp
 refine (within2_any _ _ _ _).mono ?_; rintro e w' ⟨rfl, rfl⟩; rw [Ftp.out]; go_wp2_with fail
 cases hfl : inC kf 0 3
 case false =>
  have Ffl := hide hfl
  clear hfl
  refine (within2_any _ _ _ _).mono ?_; rintro e w' ⟨rfl, rfl⟩; rw [Ffl.out]; go_wp2_with fail
  go_ret
  exact ⟨congrArg (Value.int .i64) (hP.out.trans (pv2 (by have h1 := Ffl.out; simp [inC] at h1; omega))).symm, hb02.out⟩
 have Ffl := hide hfl
 clear hfl
 have H2 := hide (show 1 ≤ kt ∧ kt ≤ 4 ∧ 0 ≤ kf ∧ kf ≤ 3 from by
  have h1 := Ftp.out
  have h2 := Ffl.out
  simp [inC] at h1 h2
  omega)
 cases hns0 : ((ns : Int) == 0)
 case true =>
  refine (within2_any _ _ _ _).mono ?_; rintro e w' ⟨rfl, rfl⟩; rw [Ffl.out]; go_wp2_with fail
  go_ret
  exact ⟨congrArg (Value.int .i64) (hP.out.trans (pv3 H2.out hns0)).symm, hb02.out⟩
 by_cases hB0 : 6 < (ns : Int)
 case pos =>
  refine (within2_any _ _ _ _).mono ?_; rintro e w' ⟨rfl, rfl⟩; rw [Ffl.out]; go_wp2_with fail
  go_ret
  exact ⟨congrArg (Value.int .i64) (hP.out.trans (pv4 H2.out hns0 (by omega))).symm, hb02.out⟩
 by_cases hB1 : 3 < (nm : Int)
 case pos =>
  refine (within2_any _ _ _ _).mono ?_; rintro e w' ⟨rfl, rfl⟩; rw [Ffl.out]; go_wp2_with fail
  go_ret
  exact ⟨congrArg (Value.int .i64) (hP.out.trans (pv4 H2.out hns0 (by omega))).symm, hb02.out⟩
 by_cases hB2 : 3 < (nv : Int)
 case pos =>
  refine (within2_any _ _ _ _).mono ?_; rintro e w' ⟨rfl, rfl⟩; rw [Ffl.out]; go_wp2_with fail
  go_ret
  exact ⟨congrArg (Value.int .i64) (hP.out.trans (pv4 H2.out hns0 (by omega))).symm, hb02.out⟩
 by_cases hB3 : 4 < (nr : Int)
 case pos =>
  refine (within2_any _ _ _ _).mono ?_; rintro e w' ⟨rfl, rfl⟩; rw [Ffl.out]; go_wp2_with fail
  go_ret
  exact ⟨congrArg (Value.int .i64) (hP.out.trans (pv4 H2.out hns0 (by omega))).symm, hb02.out⟩
 by_cases hB4 : 8 < (nu : Int)
 case pos =>
  refine (within2_any _ _ _ _).mono ?_; rintro e w' ⟨rfl, rfl⟩; rw [Ffl.out]; go_wp2_with fail
  go_ret
  exact ⟨congrArg (Value.int .i64) (hP.out.trans (pv4 H2.out hns0 (by omega))).symm, hb02.out⟩
 refine (within2_any _ _ _ _).mono ?_; rintro e w' ⟨rfl, rfl⟩; rw [Ffl.out]; go_wp2_with fail
 have H3 := hide hns0
 have H4 := hide (show (ns : Int) ≤ 6 ∧ (nm : Int) ≤ 3 ∧ (nv : Int) ≤ 3 ∧ (nr : Int) ≤ 4 ∧ (nu : Int) ≤ 8 from by omega)
 clear hns0 hB0 hB1 hB2 hB3 hB4
 rename_i z1 zK za
 clear z1
 obtain ⟨w3, hw3, hb3, hB3, hk3⟩ := box_blk w2 #[] 9
 have hb23 := hide (show Below w2.heap.size w2 w3.drew from hb3.trans ((drewB w3).mono hb3.size))
 have hO3 := hide (show World.ownsRow w3.drew w2.heap.size 9 1 (.slice (some ⟨w2.heap.size, 0, none⟩) 0 0) 0 [] from ⟨by simp, .inr ⟨w2.heap.size, 0, #[], rfl, Nat.le_refl _, hB3, Nat.le_refl _, by unfold maxLen; omega, by simp, by simp⟩⟩)
 have hX3 := hide (hX2.out.at hb23.out)
 have hc3 := hX3.out.b.cell
 have hb03 := hide (hb02.out.trans (hb23.out.mono hb02.out.size))
 clear hb3 hB3 hk3
 refine Reg.cI [0, 0, 2, 7, 0, 16, 63, 0, 128, 511, 1023] [1, 2, 4, 5, 7, 8, 0, 3, 6, 9, 10] ?_
 refine Reg.wI [1, 2, 4, 5, 7, 8, 0] [3, 6, 9, 10] rfl fun Qf hQf => ?_
 go_wp2_with fail
 first | refine hQf _ _ ⟨rfl, ?_⟩ | refine ⟨rfl, ?_⟩ | refine hQf _ _ ⟨by simp [Reg.fineT, Reg.intOp, Region.wanted, yielded, Reg.intFine, Reg.isInt, Act.eval], ?_⟩
 try clear hQf
 refine Reg.aI 3 [6, 9, 10] [5, 8] rfl fun Qf hQf => ?_
 simp only [gT, gS, gZ]
 go_wp2_with (at_builtin; refine wpList_appSl (w := w3.drew) rowS rfl _ _ rfl w2.heap.size _ _ _ rfl hO3.out (l := p.states) (hS1.out.keep (w' := w3.drew) (B' := w.heap.size) (fun _ hp => hb03.out.cell hp) (Nat.le_refl _)) (by rw [← hLH.out.2.2.2.2.2.1]; rfl) (fun d => rfl) (by have := hsmH.out.states; have := hsmH.out.messages; have := hsmH.out.values; omega) hb23.out.size ?_; intro v4 w4 hown4 hkept4)
 have hb24 := hide (hb23.out.trans (hkept4.below hb23.out.size fun b' hb' e => by have := (hO3.out.lt b' e).1; omega))
 have hO4 := hide hown4
 have hX4 := hide (hX2.out.at hb24.out)
 have hc4 := hX4.out.b.cell
 have hb04 := hide (hb02.out.trans (hb24.out.mono hb02.out.size))
 obtain ⟨Av4, cv4, hv4⟩ := slice_of_own hown4
 subst hv4
 clear hkept4 hown4
 first | refine hQf _ _ ⟨?_, ?_⟩ | refine ⟨?_, ?_⟩
 ·exact ⟨Reg.same_load1 rfl rfl ((hX3.out.b.cell 3).trans hp3) ((hX4.out.b.cell 3).trans hp3) Tryd.underlying22 rfl, Reg.same_load1 rfl rfl ((hX3.out.b.cell 4).trans hp4) ((hX4.out.b.cell 4).trans hp4) Tryd.underlying22 rfl⟩
 try clear hQf
 refine Reg.aI 6 [9, 10] [8] rfl fun Qf hQf => ?_
 simp only [gT, gS, gZ]
 go_wp2_with (at_builtin; refine wpList_appSl (w := w4) rowS rfl _ _ rfl w2.heap.size _ _ _ rfl hO4.out (l := p.messages) (hS2.out.keep (w' := w4) (B' := w.heap.size) (fun _ hp => hb04.out.cell hp) (Nat.le_refl _)) (by rw [← hLH.out.2.1]; rfl) (fun d => rfl) (by have := hsmH.out.states; have := hsmH.out.messages; have := hsmH.out.values; omega) hb24.out.size ?_; intro v5 w5 hown5 hkept5)
 have hb25 := hide (hb24.out.trans (hkept5.below hb24.out.size fun b' hb' e => by have := (hO4.out.lt b' e).1; omega))
 have hO5 := hide hown5
 have hX5 := hide (hX2.out.at hb25.out)
 have hc5 := hX5.out.b.cell
 have hb05 := hide (hb02.out.trans (hb25.out.mono hb02.out.size))
 obtain ⟨Av5, cv5, hv5⟩ := slice_of_own hown5
 subst hv5
 clear hkept5 hown5
 first | refine hQf _ _ ⟨?_, ?_⟩ | refine ⟨?_, ?_⟩
 ·exact Reg.same_load1 rfl rfl ((hX4.out.b.cell 4).trans hp4) ((hX5.out.b.cell 4).trans hp4) Tryd.underlying22 rfl
 try clear hQf
 refine Reg.aI 9 [10] [] rfl fun Qf hQf => ?_
 simp only [gT, gS, gZ]
 go_wp2_with (at_builtin; refine wpList_appSl (w := w5) rowS rfl _ _ rfl w2.heap.size _ _ _ rfl hO5.out (l := p.values) (hS3.out.keep (w' := w5) (B' := w.heap.size) (fun _ hp => hb05.out.cell hp) (Nat.le_refl _)) (by rw [← hLH.out.2.2.1]; rfl) (fun d => rfl) (by have := hsmH.out.states; have := hsmH.out.messages; have := hsmH.out.values; omega) hb25.out.size ?_; intro v6 w6 hown6 hkept6)
 have hb26 := hide (hb25.out.trans (hkept6.below hb25.out.size fun b' hb' e => by have := (hO5.out.lt b' e).1; omega))
 have hO6 := hide hown6
 have hX6 := hide (hX2.out.at hb26.out)
 have hc6 := hX6.out.b.cell
 have hb06 := hide (hb02.out.trans (hb26.out.mono hb02.out.size))
 obtain ⟨Av6, cv6, hv6⟩ := slice_of_own hown6
 subst hv6
 clear hkept6
 first | refine hQf _ _ ⟨Reg.nm, ?_⟩ | skip
 try clear hQf
 refine Reg.wI [10] [] rfl fun Qf hQf => ?_
 go_wp2_with fail
 first | refine hQf _ _ ⟨rfl, ?_⟩ | refine ⟨rfl, ?_⟩ | refine hQf _ _ ⟨by simp [Reg.fineT, Reg.intOp, Region.wanted, yielded, Reg.intFine, Reg.isInt, Act.eval], ?_⟩
 try clear hQf
 first | refine Reg.restI_end ?_ | skip
 have hnn : 0 + p.states.length + p.messages.length + p.values.length = (names3 p).length := by simp only [names3, List.length_append]; omega
 have hxs : [] ++ p.states.map (encS · 0) ++ p.messages.map (encS · 0) ++ p.values.map (encS · 0) = strV (names3 p) := by simp [strV, names3]
 rw [hnn, hxs] at hown6
 rw [show p.states.length + p.messages.length + p.values.length = (names3 p).length by simp only [names3, List.length_append]]
 have hlen : (names3 p).length ≤ 180 := by
  have := hsmH.out.states
  have := hsmH.out.messages
  have := hsmH.out.values
  omega
 have hSl := hide (own_sl hown6 (by omega)).2
 have hcv := own_cap2 hown6
 have hnm' := hide hsmH.out.names
 have hnF := hide (show namesE nameOK (names3 p) = allE (nmE (names3 p)) (List.range (names3 p).length) from rfl)
 rw [he0.out] at hnF
 have hE0 := hide (show namesE nameOK (names3 p) = e0 from he0.out)
 clear hown6 hnn hxs hO3 hO4 hO5 hO6 he0
 generalize names3 p = L at *
 go_wp2_with fail
 go_loopw [4] (fun ii wr => ∃ (k : Nat), ii = .int .i64 (k : Int) ∧ k ≤ L.length ∧ Hid (allE (nmE L) (List.range k) = 0) ∧ Hid (Below w6.heap.size w6 wr)) (fun ii _ => L.length - (intOf ii).toNat)
 case atStart => exact ⟨0, rfl, Nat.zero_le _, by show _ = _; rfl, Below.refl _ _⟩
 case round =>
  obtain ⟨k, rfl, hk, hE, hbr⟩ := hrel
  by_cases hlt : k < L.length
  ·obtain ⟨b, off, s, hA, hbk, hsk, hc⟩ := hSl.out.at hlt
   have d0 := hc 0 (by omega)
   simp only [Nat.add_zero, Nat.mul_one, encS] at d0
   have d1 := (hbr.out.cell (p := ⟨b, off + k, none⟩) hbk).trans d0
   have hssz := hnm'.out s (List.mem_of_getElem? hsk)
   have hskH := hide hsk
   subst hA
   clear hc hsk
   cases hok2 : nameOK s with
   | false =>
    have hokH := hide hok2
    clear hok2
    have hst := hide (show e0 = 2 from hE0.out.symm.trans (nm_stop hlt hE.out hskH.out (.inl hokH.out)))
    go_wp2_with fail
    refine Reg.cI [0, 0, 3, 7, 15, 31, 63, 127, 127, 511, 127, 127, 3199, 7295, 16383, 32767] [0, 1, 2, 3, 4, 5, 6, 7, 8, 10, 11, 12, 13, 9, 14, 15] ?_
    refine Reg.wI [0, 1, 2, 3] [4, 5, 6, 7, 8, 10, 11, 12, 13, 9, 14, 15] rfl fun Qf hQf => ?_
    go_wp2_with fail
    first | refine hQf _ _ ⟨rfl, ?_⟩ | refine ⟨rfl, ?_⟩ | refine hQf _ _ ⟨by simp [Reg.fineT, Reg.intOp, Region.wanted, yielded, Reg.intFine, Reg.isInt, Act.eval], ?_⟩
    try clear hQf
    refine Reg.aI 4 [5, 6, 7, 8, 10, 11, 12, 13, 9, 14, 15] [] rfl fun Qf hQf => ?_
    simp only [gT, gS, gZ]
    go_wp2_with (go_at_call 29; refine Calls.ret (refValidName_any s _ (by omega)) ?_; rintro v w8 ⟨rfl, hb8⟩; rw [hokH.out]; have hb68 := hide (hbr.out.trans (((drewB wr).trans hb8).mono hbr.out.size)); have d8 := (hb68.out.cell (p := ⟨b, off + k, none⟩) hbk).trans d0)
    first | refine hQf _ _ ⟨Reg.nm, ?_⟩ | refine ⟨Reg.nm, ?_⟩
    try clear hQf
    clear hb8
    refine Reg.wI [5, 6, 7, 8, 10, 11, 12, 13] [9, 14, 15] rfl fun Qf hQf => ?_
    go_wp2_with fail
    first | refine hQf _ _ ⟨rfl, ?_⟩ | refine ⟨rfl, ?_⟩ | refine hQf _ _ ⟨by simp [Reg.fineT, Reg.intOp, Region.wanted, yielded, Reg.intFine, Reg.isInt, Act.eval], ?_⟩
    try clear hQf
    refine Reg.aI 9 [14, 15] [13] rfl fun Qf hQf => ?_
    simp only [gT, gS, gZ]
    go_wp2_with fail
    first | refine hQf _ _ ⟨Reg.same_below (Below.refl _ _) [13] rfl, ?_⟩ | refine ⟨Reg.same_below (Below.refl _ _) [13] rfl, ?_⟩
    try clear hQf
    refine Reg.aI 14 [15] [] rfl fun Qf hQf => ?_
    simp only [gT, gS, gZ]
    go_wp2_with fail
    first | refine hQf _ _ ⟨Reg.nm, ?_⟩ | refine ⟨Reg.nm, ?_⟩
    try clear hQf
    refine Reg.wI [15] [] rfl fun Qf hQf => ?_
    go_wp2_with fail
    first | refine hQf _ _ ⟨rfl, ?_⟩ | refine ⟨rfl, ?_⟩ | refine hQf _ _ ⟨by simp [Reg.fineT, Reg.intOp, Region.wanted, yielded, Reg.intFine, Reg.isInt, Act.eval], ?_⟩
    try clear hQf
    first | refine Reg.restI_end ?_ | skip
    go_wp2_with fail
    go_ret
    exact ⟨congrArg (Value.int .i64) (hP.out.trans (by rw [hst.out]; exact pv5 H2.out H3.out H4.out rfl)).symm, hb06.out.trans (hb68.out.mono hb06.out.size)⟩
   | true =>
    have hokH := hide hok2
    clear hok2
    have htl : (L.take k).length = k := by rw [List.length_take]; omega
    have htlH := hide htl
    clear htl
    have hcc2H : Hid (∀ wx, Hid (Below w6.heap.size w6 wx) → Hid (Calls Tryd.prog 45 #[.slice (some ⟨b, off, none⟩) k cv6, .string s] wx fun r w' => r = .returned (.bool (decide (s ∈ L.take k))) ∧ wx = w')) := hide (fun wx hx => by
     have h1 := (hSl.out.keep (w' := wx) (B' := w6.heap.size) (fun _ hp => hx.out.cell hp) (Nat.le_refl _)).takeS k
     have h2 := hasText_any (c := cv6) (x := s) h1
     rw [htlH.out] at h2
     exact h2)
    by_cases hm : s ∈ L.take k
    ·have hmH := hide hm
     have hmDH := hide (show decide (s ∈ L.take k) = true from decide_eq_true hm)
     clear hm
     have hst := hide (show e0 = 2 from hE0.out.symm.trans (nm_stop hlt hE.out hskH.out (.inr hmH.out)))
     go_wp2_with fail
     refine Reg.cI [0, 0, 3, 7, 15, 31, 63, 127, 127, 511, 127, 127, 3199, 7295, 16383, 32767] [0, 1, 2, 3, 4, 5, 6, 7, 8, 10, 11, 12, 13, 9, 14, 15] ?_
     refine Reg.wI [0, 1, 2, 3] [4, 5, 6, 7, 8, 10, 11, 12, 13, 9, 14, 15] rfl fun Qf hQf => ?_
     go_wp2_with fail
     first | refine hQf _ _ ⟨rfl, ?_⟩ | refine ⟨rfl, ?_⟩ | refine hQf _ _ ⟨by simp [Reg.fineT, Reg.intOp, Region.wanted, yielded, Reg.intFine, Reg.isInt, Act.eval], ?_⟩
     try clear hQf
     refine Reg.aI 4 [5, 6, 7, 8, 10, 11, 12, 13, 9, 14, 15] [] rfl fun Qf hQf => ?_
     simp only [gT, gS, gZ]
     go_wp2_with (go_at_call 29; refine Calls.ret (refValidName_any s _ (by omega)) ?_; rintro v w8 ⟨rfl, hb8⟩; rw [hokH.out]; have hb68 := hide (hbr.out.trans (((drewB wr).trans hb8).mono hbr.out.size)); have d8 := (hb68.out.cell (p := ⟨b, off + k, none⟩) hbk).trans d0)
     first | refine hQf _ _ ⟨Reg.nm, ?_⟩ | refine ⟨Reg.nm, ?_⟩
     try clear hQf
     clear hb8
     refine Reg.wI [5, 6, 7, 8, 10, 11, 12, 13] [9, 14, 15] rfl fun Qf hQf => ?_
     go_wp2_with fail
     first | refine hQf _ _ ⟨rfl, ?_⟩ | refine ⟨rfl, ?_⟩ | refine hQf _ _ ⟨by simp [Reg.fineT, Reg.intOp, Region.wanted, yielded, Reg.intFine, Reg.isInt, Act.eval], ?_⟩
     try clear hQf
     refine Reg.aI 9 [14, 15] [13] rfl fun Qf hQf => ?_
     simp only [gT, gS, gZ]
     go_wp2_with fail
     first | refine hQf _ _ ⟨Reg.same_below (Below.refl _ _) [13] rfl, ?_⟩ | refine ⟨Reg.same_below (Below.refl _ _) [13] rfl, ?_⟩
     try clear hQf
     refine Reg.aI 14 [15] [] rfl fun Qf hQf => ?_
     simp only [gT, gS, gZ]
     go_wp2_with (go_at_call 45; refine (hcc2H.out _ hb68).out.mono ?_; rintro r w' ⟨rfl, rfl⟩; rw [hmDH.out])
     first | refine hQf _ _ ⟨Reg.nm, ?_⟩ | refine ⟨Reg.nm, ?_⟩
     try clear hQf
     refine Reg.wI [15] [] rfl fun Qf hQf => ?_
     go_wp2_with fail
     first | refine hQf _ _ ⟨rfl, ?_⟩ | refine ⟨rfl, ?_⟩ | refine hQf _ _ ⟨by simp [Reg.fineT, Reg.intOp, Region.wanted, yielded, Reg.intFine, Reg.isInt, Act.eval], ?_⟩
     try clear hQf
     first | refine Reg.restI_end ?_ | skip
     go_wp2_with fail
     go_ret
     exact ⟨congrArg (Value.int .i64) (hP.out.trans (by rw [hst.out]; exact pv5 H2.out H3.out H4.out rfl)).symm, hb06.out.trans (hb68.out.mono hb06.out.size)⟩
    ·have hmH := hide hm
     have hmDH := hide (show decide (s ∈ L.take k) = false from decide_eq_false hm)
     clear hm
     have hnx := hide (nm_next hlt hE.out hskH.out hokH.out hmH.out)
     go_wp2_with fail
     refine Reg.cI [0, 0, 3, 7, 15, 31, 63, 127, 127, 511, 127, 127, 3199, 7295, 16383, 32767] [0, 1, 2, 3, 4, 5, 6, 7, 8, 10, 11, 12, 13, 9, 14, 15] ?_
     refine Reg.wI [0, 1, 2, 3] [4, 5, 6, 7, 8, 10, 11, 12, 13, 9, 14, 15] rfl fun Qf hQf => ?_
     go_wp2_with fail
     first | refine hQf _ _ ⟨rfl, ?_⟩ | refine ⟨rfl, ?_⟩ | refine hQf _ _ ⟨by simp [Reg.fineT, Reg.intOp, Region.wanted, yielded, Reg.intFine, Reg.isInt, Act.eval], ?_⟩
     try clear hQf
     refine Reg.aI 4 [5, 6, 7, 8, 10, 11, 12, 13, 9, 14, 15] [] rfl fun Qf hQf => ?_
     simp only [gT, gS, gZ]
     go_wp2_with (go_at_call 29; refine Calls.ret (refValidName_any s _ (by omega)) ?_; rintro v w8 ⟨rfl, hb8⟩; rw [hokH.out]; have hb68 := hide (hbr.out.trans (((drewB wr).trans hb8).mono hbr.out.size)); have d8 := (hb68.out.cell (p := ⟨b, off + k, none⟩) hbk).trans d0)
     first | refine hQf _ _ ⟨Reg.nm, ?_⟩ | refine ⟨Reg.nm, ?_⟩
     try clear hQf
     clear hb8
     refine Reg.wI [5, 6, 7, 8, 10, 11, 12, 13] [9, 14, 15] rfl fun Qf hQf => ?_
     go_wp2_with fail
     first | refine hQf _ _ ⟨rfl, ?_⟩ | refine ⟨rfl, ?_⟩ | refine hQf _ _ ⟨by simp [Reg.fineT, Reg.intOp, Region.wanted, yielded, Reg.intFine, Reg.isInt, Act.eval], ?_⟩
     try clear hQf
     refine Reg.aI 9 [14, 15] [13] rfl fun Qf hQf => ?_
     simp only [gT, gS, gZ]
     go_wp2_with fail
     first | refine hQf _ _ ⟨Reg.same_below (Below.refl _ _) [13] rfl, ?_⟩ | refine ⟨Reg.same_below (Below.refl _ _) [13] rfl, ?_⟩
     try clear hQf
     refine Reg.aI 14 [15] [] rfl fun Qf hQf => ?_
     simp only [gT, gS, gZ]
     go_wp2_with (go_at_call 45; refine (hcc2H.out _ hb68).out.mono ?_; rintro r w' ⟨rfl, rfl⟩; rw [hmDH.out])
     first | refine hQf _ _ ⟨Reg.nm, ?_⟩ | refine ⟨Reg.nm, ?_⟩
     try clear hQf
     refine Reg.wI [15] [] rfl fun Qf hQf => ?_
     go_wp2_with fail
     first | refine hQf _ _ ⟨rfl, ?_⟩ | refine ⟨rfl, ?_⟩ | refine hQf _ _ ⟨by simp [Reg.fineT, Reg.intOp, Region.wanted, yielded, Reg.intFine, Reg.isInt, Act.eval], ?_⟩
     try clear hQf
     first | refine Reg.restI_end ?_ | skip
     go_wp2_with fail
     exact ⟨⟨k + 1, by go_num, by omega, hnx.out, hb68.out⟩, by simp [intOf]; omega⟩
  ·have hz0 := hide (show e0 = 0 from by
    have h1 := hE.out
    rw [show k = L.length by omega] at h1
    exact hnF.out.trans h1)
   have hX7 := hide (hX6.out.at hbr.out)
   have hc7 := hX7.out.b.cell
   have hb07 := hide (hb06.out.trans (hbr.out.mono hb06.out.size))
   clear hE
   obtain ⟨w7b, hw7b⟩ : ∃ x, x = wr := ⟨_, rfl⟩
   subst hw7b
   by_cases hCnl : (0 : Int) < (nl : Int)
   case pos =>
    go_wp2_with fail
    go_ret
    exact ⟨congrArg (Value.int .i64) (hP.out.trans (pv6 H2.out H3.out H4.out (by rw [hz0.out]; rfl) (by have := hKt.out; omega))).symm, hb07.out⟩
   have hR := hide (hP.out.trans (pv7 H2.out H3.out H4.out (by rw [hz0.out]; rfl) (by have := hKt.out; omega)))
   go_wp2_with fail
   clear hCnl
   go_loopw [5] (fun ii wr => ∃ (k : Nat), ii = .int .i64 (k : Int) ∧ k ≤ nr ∧ Hid (Below w7b.heap.size w7b wr) ∧ Hid ((p.res.take k).all linB = true)) (fun ii _ => nr - (intOf ii).toNat)
   case atStart => exact ⟨0, rfl, Nat.zero_le _, Below.refl _ _, by show _ = _; simp⟩
   case round =>
    obtain ⟨k2, rfl, hk2, hbr2, hE2⟩ := hrel
    have hX8 := hide (hX7.out.at hbr2.out)
    have hc8 := hX8.out.b.cell
    have hb08 := hide (hb07.out.trans (hbr2.out.mono hb07.out.size))
    by_cases hlt2 : k2 < nr
    ·obtain ⟨b2, off2, l, hA2, hbk2, hl, hcl⟩ := (hS4.out.keep (w' := wr) (B' := w.heap.size) (fun _ hp => hb08.out.cell hp) (Nat.le_refl _)).at (k := k2) (by have := hLH.out.1; omega)
     have hlc : (loadCellsFrom ⟨b2, off2 + k2 * 4, none⟩ 0 4 #[]).run Tryd.prog wr = .ok #[.int .i64 l.c, .int .i64 l.n, .int .i64 l.t, .int .i64 l.f] wr := by
      have := run_loadCells_list (P := Tryd.prog) wr ⟨b2, off2 + k2 * 4, none⟩ [.int .i64 l.c, .int .i64 l.n, .int .i64 l.t, .int .i64 l.f] (fun j v hv => by
       rw [Addr.add_mid]
       have hj := lt_of_get hv
       rw [hcl j hj]
       match j, hj, hv with
       | 0, _, hv => exact congrArg some (Option.some.inj hv)
       | 1, _, hv => exact congrArg some (Option.some.inj hv)
       | 2, _, hv => exact congrArg some (Option.some.inj hv)
       | 3, _, hv => exact congrArg some (Option.some.inj hv))
      simpa [loadCells] using this
     have hlH := hide hl
     subst hA2
     clear hcl hl
     go_wp2_with fail
     cases hv : linB l
     ·have hres := hide (show p.res.all linB = false from by
       rw [List.all_eq_false]
       exact ⟨l, List.mem_of_getElem? hlH.out, by rw [hv]; decide⟩)
      refine Calls.ret (few_any l _) ?_; rintro v w9 ⟨rfl, hb9⟩; rw [hv]; have hb09 := hide (hb08.out.trans (hb9.mono hb08.out.size)); clear hb9; go_wp2_with fail
      go_ret
      refine ⟨congrArg (Value.int .i64) (hR.out.trans ?_).symm, hb09.out⟩
      unfold restR
      rw [hres.out]
      rfl
     ·have hres := hide (all_take_more (p := linB) hlH.out hE2.out hv)
      refine Calls.ret (few_any l _) ?_; rintro v w9 ⟨rfl, hb9⟩; rw [hv]; have hb29 := hide (hbr2.out.trans (hb9.mono hbr2.out.size)); clear hb9; go_wp2_with fail
      exact ⟨⟨k2 + 1, by go_num, by omega, hb29.out, hres.out⟩, by simp [intOf]; omega⟩
    ·have hres := hide (show p.res.all linB = true from by
      have h1 := hLH.out.1
      have h2 := hE2.out
      rwa [List.take_of_length_le (by omega)] at h2)
     have hR1 := hide (show protE nameOK p = orE (setE p.initial (ns : Int)) (orE (whenE (decide (ni = 0)) 1) (orE (setE p.leader (ns : Int)) (restQ p))) from by
      rw [hR.out]
      obtain ⟨-, -, -, -, e5, e6, -⟩ := hLH.out
      unfold restR restQ
      rw [hres.out, isEmpty_len, e5, e6]
      rfl)
     clear hres hE2
     go_wp2_with fail
     obtain ⟨ei, hei⟩ : ∃ e, Hid (setE p.initial (ns : Int) = e) := ⟨_, rfl⟩
     by_cases h0i : ei = 0
     case neg =>
      have Qi : (ei != 0) = true := by simp [h0i]
      have Hi := hide h0i
      clear h0i
      refine Calls.ret (hinit _ hb08.out) ?_; rintro v w9 ⟨rfl, hb9⟩; rw [hei.out]; have hb09 := hide (hb08.out.trans (hb9.mono hb08.out.size)); clear hb9; go_wp2_with fail
      go_ret
      exact ⟨congrArg (Value.int .i64) (hR1.out.trans (by rw [hei.out]; exact orE_ne Hi.out)).symm, hb09.out⟩
     have Qi : (ei != 0) = false := by simp [h0i]
     have Hi := hide h0i
     clear h0i
     have hR2 := hide (show protE nameOK p = orE (whenE (decide (ni = 0)) 1) (orE (setE p.leader (ns : Int)) (restQ p)) from hR1.out.trans (by rw [hei.out, Hi.out]; rfl))
     by_cases hni0 : ni = 0
     case pos =>
      have Qn : ((ni : Int) == 0) = true := by simp [hni0]
      have Hn := hide hni0
      clear hni0
      refine Calls.ret (hinit _ hb08.out) ?_; rintro v w9 ⟨rfl, hb9⟩; rw [hei.out]; have hX9 := hide (hX8.out.at hb9); have hc9 := hX9.out.b.cell; have hl9 := blk_load hX9.out.b hpszH.out; have hb09 := hide (hb08.out.trans (hb9.mono hb08.out.size)); clear hb9; go_wp2_with fail
      go_ret
      exact ⟨congrArg (Value.int .i64) (hR2.out.trans (by rw [decide_eq_true Hn.out]; rfl)).symm, hb09.out⟩
     have Qn : ((ni : Int) == 0) = false := by simp [hni0]
     have Hn := hide hni0
     clear hni0
     have hR3 := hide (show protE nameOK p = orE (setE p.leader (ns : Int)) (restQ p) from hR2.out.trans (by rw [decide_eq_false Hn.out]; rfl))
     refine Calls.ret (hinit _ hb08.out) ?_; rintro v w9 ⟨rfl, hb9⟩; rw [hei.out]; have hX9 := hide (hX8.out.at hb9); have hc9 := hX9.out.b.cell; have hl9 := blk_load hX9.out.b hpszH.out; have hb09 := hide (hb08.out.trans (hb9.mono hb08.out.size)); clear hb9; go_wp2_with fail
     obtain ⟨el, hel⟩ : ∃ e, Hid (setE p.leader (ns : Int) = e) := ⟨_, rfl⟩
     by_cases h0l : el = 0
     case neg =>
      have Ql : (el != 0) = true := by simp [h0l]
      have Hl := hide h0l
      clear h0l
      refine Calls.ret (hlead _ hb09.out) ?_; rintro v wa ⟨rfl, hba⟩; rw [hel.out]; have hXa := hide (hX9.out.at hba); have hca := hXa.out.b.cell; have hla := blk_load hXa.out.b hpszH.out; have hb0a := hide (hb09.out.trans (hba.mono hb09.out.size)); clear hba; go_wp2_with fail
      go_ret
      exact ⟨congrArg (Value.int .i64) (hR3.out.trans (by rw [hel.out]; exact orE_ne Hl.out)).symm, hb0a.out⟩
     have Ql : (el != 0) = false := by simp [h0l]
     have Hl := hide h0l
     clear h0l
     have hR5 := hide (show protE nameOK p = restQ p from hR3.out.trans (by rw [hel.out, Hl.out]; rfl))
     refine Calls.ret (hlead _ hb09.out) ?_; rintro v wa ⟨rfl, hba⟩; rw [hel.out]; have hXa := hide (hX9.out.at hba); have hca := hXa.out.b.cell; have hla := blk_load hXa.out.b hpszH.out; have hb0a := hide (hb09.out.trans (hba.mono hb09.out.size)); clear hba; go_wp2_with fail
     clear Qi Qn Ql
     go_loopw [8] (fun ii wr => ∃ (k : Nat), ii = .int .i64 (k : Int) ∧ k ≤ nu ∧ Hid (Below wa.heap.size wa wr) ∧ Hid (allE (ruleAtE nameOK p) (List.range k) = 0)) (fun ii _ => nu - (intOf ii).toNat)
     case atStart => exact ⟨0, rfl, Nat.zero_le _, Below.refl _ _, by show _ = _; rfl⟩
     case round =>
      obtain ⟨k4, rfl, hk4, hbs, hE4⟩ := hrel
      have hXb := hide (hXa.out.at hbs.out)
      have hcb := hXb.out.b.cell
      have hlb := blk_load hXb.out.b hpszH.out
      have hb0b := hide (hb0a.out.trans (hbs.out.mono hb0a.out.size))
      by_cases hlt4 : k4 < nu
      ·obtain ⟨e9, he9⟩ : ∃ e, Hid (ruleAtE nameOK p k4 = e) := ⟨_, rfl⟩
       have hcall := hide (refRule_any (cs := pc.toList) (i := k4) hXb.out.pr (by have := hLH.out.2.2.2.2.2.2; omega) hsmH.out hXb.out.tab)
       rw [he9.out] at hcall
       have hxH := hide (show (List.range p.rules.length)[k4]? = some k4 from by rw [List.getElem?_range (by have := hLH.out.2.2.2.2.2.2; omega)])
       have htrH := hide (show (List.range p.rules.length).take k4 = List.range k4 from by rw [List.take_range, Nat.min_eq_left (by have := hLH.out.2.2.2.2.2.2; omega)])
       go_wp2_with fail
       by_cases h0 : e9 = 0
       ·have hq : (e9 != 0) = false := by simp [h0]
        have hnx := hide (show allE (ruleAtE nameOK p) (List.range (k4 + 1)) = 0 from by
         have h1 := allE_take (ruleAtE nameOK p) hxH.out (by rw [htrH.out]; exact hE4.out)
         rw [List.take_range, Nat.min_eq_left (by have := hLH.out.2.2.2.2.2.2; omega)] at h1
         rw [h1, he9.out, h0])
        clear h0
        refine Calls.ret hcall.out ?_; rintro v w9 ⟨rfl, hb9⟩; have hb89 := hide (hbs.out.trans (hb9.mono hbs.out.size)); clear hb9; go_wp2_with fail
        exact ⟨⟨k4 + 1, by go_num, by omega, hb89.out, hnx.out⟩, by simp [intOf]; omega⟩
       ·have hq : (e9 != 0) = true := by simp [h0]
        have hst := hide (show protE nameOK p = e9 from by
         have h1 := allE_stop (ruleAtE nameOK p) hxH.out (by rw [htrH.out]; exact hE4.out) (by rw [he9.out]; exact h0)
         rw [hR5.out]
         unfold restQ
         rw [h1, he9.out, orE_ne h0])
        clear h0
        refine Calls.ret hcall.out ?_; rintro v w9 ⟨rfl, hb9⟩; have hb89 := hide (hbs.out.trans (hb9.mono hbs.out.size)); clear hb9; go_wp2_with fail
        go_ret
        exact ⟨congrArg (Value.int .i64) hst.out.symm, hb0a.out.trans (hb89.out.mono hb0a.out.size)⟩
      ·obtain ⟨nt, hnt⟩ : ∃ n, n = (thrsL p.rules).length := ⟨_, rfl⟩
       have hR6 := hide (show protE nameOK p = whenE (decide (3 < nt)) 4 from by
        have h1 := hE4.out
        rw [show k4 = p.rules.length by have := hLH.out.2.2.2.2.2.2; omega] at h1
        rw [hR5.out, hnt]
        unfold restQ
        rw [h1, orE_zero])
       have hth := hide (distinct_any (cs := pc.toList) hXb.out.pr hsmH.out)
       rw [← hnt] at hth
       have hnt2 : nt ≤ 1800 := by
        have h1 := thrs_len p.rules (fun r hr => (hsmH.out.rule r hr).1.2.1)
        have h2 := hsmH.out.rules
        omega
       clear hnt hE4
       go_wp2_with fail
       by_cases h3t : 3 < nt
       ·have G3 : (3 : Int) < (nt : Int) := by omega
        refine Calls.ret hth.out ?_; rintro v w9 ⟨hown, hb9⟩; obtain ⟨Av, cv, hv⟩ := slice_of_own hown; subst hv; have hb09 := hide (hb0b.out.trans (hb9.mono hb0b.out.size)); clear hown hb9; go_wp2_with fail
        go_ret
        exact ⟨congrArg (Value.int .i64) (hR6.out.trans (by rw [decide_eq_true h3t]; rfl)).symm, hb09.out⟩
       ·have G3 : ¬ (3 : Int) < (nt : Int) := by omega
        refine Calls.ret hth.out ?_; rintro v w9 ⟨hown, hb9⟩; obtain ⟨Av, cv, hv⟩ := slice_of_own hown; subst hv; have hb09 := hide (hb0b.out.trans (hb9.mono hb0b.out.size)); clear hown hb9; go_wp2_with fail
        go_ret
        exact ⟨congrArg (Value.int .i64) (hR6.out.trans (by rw [decide_eq_false h3t]; rfl)).symm, hb09.out⟩
end Go.Proofs.YtbjdgepfhhafjaaDoor
