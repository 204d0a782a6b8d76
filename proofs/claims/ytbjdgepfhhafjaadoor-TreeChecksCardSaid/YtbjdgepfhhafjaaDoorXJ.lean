/-
  Part XJ of a proof.
-/
import Derived.Test.YtbjdgepfhhafjaaDoorXA
import Derived.Test.YtbjdgepfhhafjaaDoorXG
import Derived.Test.YtbjdgepfhhafjaaDoorXH
import Derived.Test.YtbjdgepfhhafjaaDoorXI
set_option maxHeartbeats 16000000
set_option maxRecDepth 100000
set_option linter.unusedVariables false
set_option linter.unusedSimpArgs false
namespace Go.Proofs.YtbjdgepfhhafjaaDoor
open Go.RowKit
theorem ruleError_any {w : World} {cs : List Value} {p : ProtD} {r : RuleD} {i : Nat} (h : ProtIs w w.heap.size cs p) (hr : p.rules[i]? = some r) (hs : r.Small) (hnm : r.name.size ≤ 9223372036854775807) (hT : SpOK w) :
  Calls Tryd.prog 40 #[.agg cs.toArray, .int .i64 (i : Int)] w (Ret fun v w' => v = .int .i64 (ruleP nameOK p.topo (p.states.length : Int) (p.messages.length : Int) (p.values.length : Int) ((p.rules.take i).any fun x => decide (x.name = r.name)) r) ∧ Below w.heap.size w w') := by
 unfold ruleP
 cases htk : ((p.rules.take i).any fun x => decide (x.name = r.name)) with
 | true =>
  have e : ∀ (o : Bool) (x : Int), orE (whenE (!o || true) 2) x = 2 := by intro o x; simp [orE, whenE]
  rw [e]
  cases hok : nameOK r.name with
  | true => exact re_b h hr hs hnm hT (hide hok) (hide htk)
  | false => exact re_a1 h hr hs hnm hT (hide hok) (hide htk)
 | false =>
  cases hok : nameOK r.name with
  | false =>
   have e : ∀ (x : Int), orE (whenE (!false || false) 2) x = 2 := by intro x; simp [orE, whenE]
   rw [e]
   exact re_a0 h hr hs hnm hT (hide hok) (hide htk)
  | true =>
   have e : ∀ (x : Int), orE (whenE (!true || false) 2) x = x := by intro x; simp [orE, whenE]
   rw [e]
   cases hfit : fitsP r.kind p.topo with
   | false =>
    have e : ∀ (s : Bool) (x : Int), orE (whenE (!false || s) 6) x = 6 := by intro s x; simp [orE, whenE]
    rw [e]
    exact re_c h hr hs hnm hT (hide hok) (hide htk) (hide hfit)
   | true =>
    cases hsur : surplusP p.topo r with
    | true =>
     have e : ∀ (x : Int), orE (whenE (!true || true) 6) x = 6 := by intro x; simp [orE, whenE]
     rw [e]
     exact re_d h hr hs hnm hT (hide hok) (hide htk) (hide hfit) (hide hsur)
    | false =>
     have e : ∀ (x : Int), orE (whenE (!true || false) 6) x = x := by intro x; simp [orE, whenE]
     rw [e]
     cases hne : (orE (idxE r.fr (p.states.length : Int)) (idxE r.to (p.states.length : Int)) != 0) with
     | true =>
      have e : ∀ (y x : Int), (y != 0) = true → orE y x = y := by intro y x hy; simp at hy; simp [orE, hy]
      rw [e _ _ hne]
      exact re_e h hr hs hnm hT (hide hok) (hide htk) (hide hfit) (hide hsur) (hide rfl) hne
     | false =>
      have h0 : orE (idxE r.fr (p.states.length : Int)) (idxE r.to (p.states.length : Int)) = 0 := by simpa using hne
      have e : ∀ (y x : Int), y = 0 → orE y x = x := by intro y x hy; simp [orE, hy]
      rw [e _ _ h0]
      have H0 := hide h0
      by_cases k1 : r.kind = 1
      ·exact re_k1 h hr hs hnm hT (hide hok) (hide htk) (hide hfit) (hide hsur) H0 k1
      by_cases k2 : r.kind = 2
      ·exact re_k2 h hr hs hnm hT (hide hok) (hide htk) (hide hfit) (hide hsur) H0 k2
      by_cases k3 : r.kind = 3
      ·exact re_k3 h hr hs hnm hT (hide hok) (hide htk) (hide hfit) (hide hsur) H0 k3
      by_cases k4 : r.kind = 4
      ·by_cases ha : r.at_ < 0
       ·exact re_k41 h hr hs hnm hT (hide hok) (hide htk) (hide hfit) (hide hsur) H0 k4 ha
       by_cases hb : 2 < r.at_
       ·exact re_k42 h hr hs hnm hT (hide hok) (hide htk) (hide hfit) (hide hsur) H0 k4 ha hb
       by_cases hc : r.at_ = 0
       ·exact re_k43 h hr hs hnm hT (hide hok) (hide htk) (hide hfit) (hide hsur) H0 k4 ha hb hc
       by_cases ht : p.topo = 3
       ·exact re_k44 h hr hs hnm hT (hide hok) (hide htk) (hide hfit) (hide hsur) H0 k4 ha hb hc ht
       ·exact re_k45 h hr hs hnm hT (hide hok) (hide htk) (hide hfit) (hide hsur) H0 k4 ha hb hc ht
      have k5 : r.kind = 5 := by
       unfold fitsP at hfit
       split at hfit
       ·omega
       ·split at hfit
        ·omega
        ·cases hfit
      by_cases ht : p.topo = 4
      ·by_cases ha : r.dir < 3
       ·exact re_k51a h hr hs hnm hT (hide hok) (hide htk) (hide hfit) (hide hsur) H0 k5 ht ha
       ·exact re_k51b h hr hs hnm hT (hide hok) (hide htk) (hide hfit) (hide hsur) H0 k5 ht ha
      ·by_cases ha : r.dir < 1
       ·exact re_k52a h hr hs hnm hT (hide hok) (hide htk) (hide hfit) (hide hsur) H0 k5 ht ha
       ·exact re_k52b h hr hs hnm hT (hide hok) (hide htk) (hide hfit) (hide hsur) H0 k5 ht ha
end Go.Proofs.YtbjdgepfhhafjaaDoor
namespace Go.Proofs.YtbjdgepfhhafjaaDoor
open Go.RowKit
attribute [-go_sem] loadCellsFrom storeCells
structure ProtX (w : World) (g : Nat) (pc : Array Value) (p : ProtD) : Prop where
 pr : ProtIs w w.heap.size pc.toList p
 b : Blk w g 27 pc
 tab : SpOK w
theorem ProtX.at {w w' : World} {g : Nat} {pc : Array Value} {p : ProtD} (h : ProtX w g pc p) (hb : Below w.heap.size w w') : ProtX w' g pc p :=
 ⟨h.pr.keep (fun _ hp => hb.cell hp) hb.size, h.b.below hb, h.tab.below hb⟩
theorem ProtIs.cells {w : World} {B : Nat} {cs : List Value} {p : ProtD} (h : ProtIs w B cs p) : ∃ A1 c1 A2 c2 A3 c3 A4 c4 A5 c5 A6 c6 A7 c7,
  cs.toArray.size = 10 ∧ cs.toArray[0]? = some (.string p.name) ∧ cs.toArray[1]? = some (.int .i64 p.topo) ∧ cs.toArray[2]? = some (.slice A1 p.states.length c1) ∧ cs.toArray[3]? = some (.slice A2 p.messages.length c2) ∧
  cs.toArray[4]? = some (.slice A3 p.values.length c3) ∧ cs.toArray[5]? = some (.int .i64 p.fault) ∧ cs.toArray[6]? = some (.slice A4 p.res.length c4) ∧ cs.toArray[7]? = some (.slice A5 p.initial.length c5) ∧ cs.toArray[8]? = some (.slice A6 p.leader.length c6) ∧ cs.toArray[9]? = some (.slice A7 p.rules.length c7) ∧
  Sl w B 1 encS A1 p.states ∧ Sl w B 1 encS A2 p.messages ∧ Sl w B 1 encS A3 p.values ∧ Sl w B 4 encLin A4 p.res ∧ Sl w B 1 encI A5 p.initial ∧ Sl w B 1 encI A6 p.leader ∧ RowsOf w B 18 (RuleIs w B) A7 p.rules ∧ p.rules.length ≤ c7 := by
 obtain ⟨A1, c1, A2, c2, A3, c3, A4, c4, A5, c5, A6, c6, A7, c7, rfl, h1, h2, h3, h4, h5, h6, h7, hcap⟩ := h
 exact ⟨A1, c1, A2, c2, A3, c3, A4, c4, A5, c5, A6, c6, A7, c7, rfl, rfl, rfl, rfl, rfl, rfl, rfl, rfl, rfl, rfl, rfl, h1, h2, h3, h4, h5, h6, h7, hcap⟩
def restR (p : ProtD) : Int :=
 orE (whenE (!p.res.all linB) 4)
 (orE (setE p.initial p.states.length)
 (orE (whenE p.initial.isEmpty 1)
 (orE (setE p.leader p.states.length)
 (orE (allE (ruleAtE nameOK p) (List.range p.rules.length))
 (whenE (decide (3 < (thrsL p.rules).length)) 4)))))
def restQ (p : ProtD) : Int := orE (allE (ruleAtE nameOK p) (List.range p.rules.length)) (whenE (decide (3 < (thrsL p.rules).length)) 4)
def protV (kt kf : Int) (ns nm nv nr nu nl : Nat) (e R : Int) : Int :=
 orE (whenE (!(decide (1 ≤ kt) && decide (kt ≤ 4)) || !(decide (0 ≤ kf) && decide (kf ≤ 3))) 1)
 (orE (whenE (decide (ns = 0)) 1)
 (orE (whenE (decide (6 < ns) || decide (3 < nm) || decide (3 < nv) || decide (4 < nr) || decide (8 < nu)) 4)
 (orE e
 (orE (whenE ((!decide (kt = 1) && (!decide (nm = 0) || !decide (nv = 0) || !decide (nr = 0) || !decide (kf = 0))) || (decide (kt = 1) && !decide (nl = 0))) 1) R))))
section
variable {kt kf : Int} {ns nm nv nr nu nl : Nat} {e R : Int}
theorem pvA (h : 1 ≤ kt ∧ kt ≤ 4 ∧ 0 ≤ kf ∧ kf ≤ 3) : (!(decide (1 ≤ kt) && decide (kt ≤ 4)) || !(decide (0 ≤ kf) && decide (kf ≤ 3))) = false := by simp [h]
theorem pv2 (h : kt < 1 ∨ 4 < kt ∨ kf < 0 ∨ 3 < kf) : protV kt kf ns nm nv nr nu nl e R = 1 := by
 have h1 : (!(decide (1 ≤ kt) && decide (kt ≤ 4)) || !(decide (0 ≤ kf) && decide (kf ≤ 3))) = true := by
  simp
  omega
 unfold protV
 rw [h1]
 rfl
theorem pv3 (h2 : 1 ≤ kt ∧ kt ≤ 4 ∧ 0 ≤ kf ∧ kf ≤ 3) (h : ((ns : Int) == 0) = true) : protV kt kf ns nm nv nr nu nl e R = 1 := by
 unfold protV
 rw [pvA h2, decide_eq_true (show ns = 0 by simpa using h)]
 rfl
theorem pvB (h : ((ns : Int) == 0) = false) : decide (ns = 0) = false := by simpa using h
theorem pv4 (h2 : 1 ≤ kt ∧ kt ≤ 4 ∧ 0 ≤ kf ∧ kf ≤ 3) (h3 : ((ns : Int) == 0) = false) (h : 6 < (ns : Int) ∨ 3 < (nm : Int) ∨ 3 < (nv : Int) ∨ 4 < (nr : Int) ∨ 8 < (nu : Int)) : protV kt kf ns nm nv nr nu nl e R = 4 := by
 have h1 : (decide (6 < ns) || decide (3 < nm) || decide (3 < nv) || decide (4 < nr) || decide (8 < nu)) = true := by
  simp
  omega
 unfold protV
 rw [pvA h2, pvB h3, h1]
 rfl
theorem pvC (h : (ns : Int) ≤ 6 ∧ (nm : Int) ≤ 3 ∧ (nv : Int) ≤ 3 ∧ (nr : Int) ≤ 4 ∧ (nu : Int) ≤ 8) : (decide (6 < ns) || decide (3 < nm) || decide (3 < nv) || decide (4 < nr) || decide (8 < nu)) = false := by
 simp
 omega
theorem pv5 (h2 : 1 ≤ kt ∧ kt ≤ 4 ∧ 0 ≤ kf ∧ kf ≤ 3) (h3 : ((ns : Int) == 0) = false) (h4 : (ns : Int) ≤ 6 ∧ (nm : Int) ≤ 3 ∧ (nv : Int) ≤ 3 ∧ (nr : Int) ≤ 4 ∧ (nu : Int) ≤ 8) (h : (e != 0) = true) : protV kt kf ns nm nv nr nu nl e R = e := by
 unfold protV
 rw [pvA h2, pvB h3, pvC h4]
 exact orE_ne (by simpa using h)
theorem pvD (h : (e != 0) = false) : e = 0 := by simpa using h
theorem pv6 (h2 : 1 ≤ kt ∧ kt ≤ 4 ∧ 0 ≤ kf ∧ kf ≤ 3) (h3 : ((ns : Int) == 0) = false) (h4 : (ns : Int) ≤ 6 ∧ (nm : Int) ≤ 3 ∧ (nv : Int) ≤ 3 ∧ (nr : Int) ≤ 4 ∧ (nu : Int) ≤ 8) (h5 : (e != 0) = false) (h : (kt ≠ 1 ∧ (nm ≠ 0 ∨ nv ≠ 0 ∨ nr ≠ 0 ∨ kf ≠ 0)) ∨ (kt = 1 ∧ nl ≠ 0)) : protV kt kf ns nm nv nr nu nl e R = 1 := by
 have h1 : ((!decide (kt = 1) && (!decide (nm = 0) || !decide (nv = 0) || !decide (nr = 0) || !decide (kf = 0))) || (decide (kt = 1) && !decide (nl = 0))) = true := by
  simp
  omega
 unfold protV
 rw [pvA h2, pvB h3, pvC h4, pvD h5, h1]
 rfl
theorem pv7 (h2 : 1 ≤ kt ∧ kt ≤ 4 ∧ 0 ≤ kf ∧ kf ≤ 3) (h3 : ((ns : Int) == 0) = false) (h4 : (ns : Int) ≤ 6 ∧ (nm : Int) ≤ 3 ∧ (nv : Int) ≤ 3 ∧ (nr : Int) ≤ 4 ∧ (nu : Int) ≤ 8) (h5 : (e != 0) = false) (h : (kt ≠ 1 ∧ nm = 0 ∧ nv = 0 ∧ nr = 0 ∧ kf = 0) ∨ (kt = 1 ∧ nl = 0)) : protV kt kf ns nm nv nr nu nl e R = R := by
 have h1 : ((!decide (kt = 1) && (!decide (nm = 0) || !decide (nv = 0) || !decide (nr = 0) || !decide (kf = 0))) || (decide (kt = 1) && !decide (nl = 0))) = false := by
  simp
  omega
 unfold protV
 rw [pvA h2, pvB h3, pvC h4, pvD h5, h1]
 rfl
end
theorem protE_V (p : ProtD) (h : nameOK p.name = true) : protE nameOK p = protV p.topo p.fault p.states.length p.messages.length p.values.length p.res.length p.rules.length p.leader.length (namesE nameOK (names3 p)) (restR p) := by
 unfold protE protV restR
 rw [h, isEmpty_len, isEmpty_len, isEmpty_len, isEmpty_len, isEmpty_len]
 rfl
theorem beq0 (n : Nat) : ((n : Int) == 0) = decide (n = 0) := by by_cases h : n = 0 <;> simp [h]
end Go.Proofs.YtbjdgepfhhafjaaDoor
namespace Go.Proofs.YtbjdgepfhhafjaaDoor
open Go.RowKit
attribute [-go_sem] loadCellsFrom storeCells
theorem protValidate_c {w : World} {cs : List Value} {p : ProtD} (h : ProtIs w w.heap.size cs p) (hsm : p.Small) (hT : SpOK w) (hok : nameOK p.name = true) (hct : p.topo = 1) :
    Calls Tryd.prog 20 #[.agg cs.toArray] w (Ret fun v w' => v = .int .i64 (protE nameOK p) ∧ Below w.heap.size w w') := by
  obtain ⟨A1, c1, A2, c2, A3, c3, A4, c4, A5, c5, A6, c6, A7, c7, hpsz, hp0, hp1, hp2, hp3, hp4, hp5, hp6, hp7, hp8, hp9, h1, h2, h3, h4, h5, h6, h7, hcap⟩ := h.cells
  have hn1 := hsm.states
  have hn2 := hsm.messages
  have hn3 := hsm.values
  have hn4 := hsm.res
  have hn5 := hsm.initial
  have hn6 := hsm.leader
  have hn7 := hsm.rules
  have hnm := hsm.name
  have hsmH := hide hsm
  have hS4 := hide h4
  have hS5 := hide h5
  have hS6 := hide h6
  obtain ⟨w1, hw1, hb1, hB1, hk1⟩ := box_blk w cs.toArray 27
  have hX1 := hide (show ProtX w1 w.heap.size cs.toArray p from ⟨h.keep (fun _ hp => hb1.cell hp) hb1.size, hB1, hT.below hb1⟩)
  have hbH := hide hb1
  generalize hpc : cs.toArray = pc at *
  clear h1 h2 h3 h4 h5 h6 h7 h hsm hb1 hB1 hk1 hpc hT
  obtain ⟨nr, hnr⟩ : ∃ n, n = p.res.length := ⟨_, rfl⟩
  obtain ⟨nm, hnmm⟩ : ∃ n, n = p.messages.length := ⟨_, rfl⟩
  obtain ⟨nv, hnv⟩ : ∃ n, n = p.values.length := ⟨_, rfl⟩
  obtain ⟨nl, hnl⟩ : ∃ n, n = p.leader.length := ⟨_, rfl⟩
  obtain ⟨ni, hni⟩ : ∃ n, n = p.initial.length := ⟨_, rfl⟩
  obtain ⟨ns, hns⟩ : ∃ n, n = p.states.length := ⟨_, rfl⟩
  obtain ⟨nu, hnu⟩ : ∃ n, n = p.rules.length := ⟨_, rfl⟩
  have hLH := hide (show nr = p.res.length ∧ nm = p.messages.length ∧ nv = p.values.length ∧ nl = p.leader.length ∧ ni = p.initial.length ∧ ns = p.states.length ∧ nu = p.rules.length from ⟨hnr, hnmm, hnv, hnl, hni, hns, hnu⟩)
  simp only [← hnr, ← hnmm, ← hnv, ← hnl, ← hni, ← hns, ← hnu] at hp2 hp3 hp4 hp6 hp7 hp8 hp9 hn1 hn2 hn3 hn4 hn5 hn6 hn7 hcap
  clear hnr hnmm hnv hnl hni hns hnu
  obtain ⟨kt, hkt⟩ : ∃ n, n = p.topo := ⟨_, rfl⟩
  obtain ⟨kf, hkf⟩ : ∃ n, n = p.fault := ⟨_, rfl⟩
  have hKH := hide (show kt = p.topo ∧ kf = p.fault from ⟨hkt, hkf⟩)
  simp only [← hkt, ← hkf] at hp1 hp5
  clear hkt hkf
  have hpszH := hide hpsz
  clear hpsz
  have hc1 := hX1.out.b.cell
  have hokH := hide hok
  clear hok
  have hP := hide (show protE nameOK p = protV kt kf ns nm nv nr nu nl (namesE nameOK (names3 p)) (restR p) from by
    obtain ⟨e1, e2, e3, e4, e5, e6, e7⟩ := hLH.out
    obtain ⟨f1, f2⟩ := hKH.out
    rw [e1, e2, e3, e4, e6, e7, f1, f2]
    exact protE_V p hokH.out)
  have hnames : ∀ wx, Hid (ProtX wx w.heap.size pc p) → Calls Tryd.prog 38 #[.agg pc] wx (Ret fun v w' => v = .int .i64 (namesE nameOK (names3 p)) ∧ Below wx.heap.size wx w') := fun wx hx => names_any hx.out.pr hsmH.out hx.out.tab
  generalize namesE nameOK (names3 p) = e0 at *
  have hKt : Hid (kt = 1) := by rw [← hKH.out.1] at hct; exact hct
  have hclq : (kt == 1) = true := by simp [hKt.out]
  clear hct
  go_enter Tryd.func20, Tryd.ntmps20
  go_wp2_with (first
    | (go_at_call 21; refine Calls.ret (validName_any p.name _ (by omega) hX1.out.tab) ?_; rintro v w2 ⟨rfl, hb2⟩; rw [hokH.out]; have hX2 := hide (hX1.out.at hb2); have hc2 := hX2.out.b.cell; have hl2 := blk_load hX2.out.b hpszH.out; have hb02 := hide (hbH.out.trans (hb2.mono hbH.out.size)); clear hb2)
    | (go_at_call 38; refine Calls.ret (hnames _ hX2) ?_; rintro v w3 ⟨rfl, hb3⟩; have hX3 := hide (hX2.out.at hb3); have hc3 := hX3.out.b.cell; have hb03 := hide (hb02.out.trans (hb3.mono hb02.out.size)); clear hb3))
  all_goals first
    | (go_ret
       refine ⟨congrArg (Value.int .i64) (hP.out.trans ?_).symm, ?_⟩
       · first
           | exact pv2 (by omega)
           | exact pv3 (by omega) (by assumption)
           | exact pv4 (by omega) (by assumption) (by omega)
           | exact pv5 (by omega) (by assumption) (by omega) (by assumption)
           | exact pv6 (by omega) (by assumption) (by omega) (by assumption) (by have := hKt.out; omega)
       · first
           | exact hb03.out
           | exact hb02.out)
    | (have hR := hide (hP.out.trans (pv7 (by omega) (by assumption) (by omega) (by assumption) (by have := hKt.out; omega))))
  rename_i z0 z1 z2 z3 z4 z5 z6 z7 z8 z9 z10 z11 zK zQ
  clear z0 z1 z2 z3 z4 z5 z6 z7 z8 z9 z10 z11
  clear hP
  have hrule : ∀ (k : Nat) (wx : World), k < nu → Hid (ProtX wx w.heap.size pc p) → Calls Tryd.prog 40 #[.agg pc, .int .i64 (k : Int)] wx (Ret fun v w' => v = .int .i64 (ruleAtE nameOK p k) ∧ Below wx.heap.size wx w') := by
    intro k wx hk hx
    obtain ⟨r, hr⟩ : ∃ r, p.rules[k]? = some r := ⟨_, List.getElem?_eq_getElem (by have := hLH.out.2.2.2.2.2.2; omega)⟩
    have h0 := hsmH.out.rule r (List.mem_of_getElem? hr)
    have h1 := ruleError_any (cs := pc.toList) hx.out.pr hr h0.1 (by have := h0.2; omega) hx.out.tab
    rw [rule_same _ _ _ _ _ (by omega)] at h1
    have h2 : ruleAtE nameOK p k = ruleE nameOK p.topo p.states.length p.messages.length p.values.length ((p.rules.take k).any fun x => decide (x.name = r.name)) r := by
      unfold ruleAtE
      rw [hr]
    rw [h2]
    exact h1
  have hinit : ∀ wx, Below w.heap.size w wx → Calls Tryd.prog 22 #[.slice A5 ni c5, .int .i64 (ns : Int)] wx (Ret fun r w' => r = .int .i64 (setE p.initial (ns : Int)) ∧ Below wx.heap.size wx w') := fun wx hx => by
    rw [hLH.out.2.2.2.2.1]
    exact set_any (hS5.out.keep (fun _ hp => hx.cell hp) hx.size)
  have hlead : ∀ wx, Below w.heap.size w wx → Calls Tryd.prog 22 #[.slice A6 nl c6, .int .i64 (ns : Int)] wx (Ret fun r w' => r = .int .i64 (setE p.leader (ns : Int)) ∧ Below wx.heap.size wx w') := fun wx hx => by
    rw [hLH.out.2.2.2.1]
    exact set_any (hS6.out.keep (fun _ hp => hx.cell hp) hx.size)
  go_loopw [113] (fun ii wr => ∃ (k : Nat), ii = .int .i64 (k : Int) ∧ k ≤ nr ∧ Hid (Below w3.heap.size w3 wr) ∧ Hid ((p.res.take k).all linB = true)) (fun ii _ => nr - (intOf ii).toNat)
  case atStart => exact ⟨0, rfl, Nat.zero_le _, Below.refl _ _, by show _ = _; simp⟩
  case round =>
    obtain ⟨k, rfl, hk, hbr, hE⟩ := hrel
    have hX4 := hide (hX3.out.at hbr.out)
    have hc4 := hX4.out.b.cell
    have hb04 := hide (hb03.out.trans (hbr.out.mono hb03.out.size))
    by_cases hlt : k < nr
    · obtain ⟨b, off, l, hA, hbk, hl, hcl⟩ := (hS4.out.keep (w' := wr) (B' := w.heap.size) (fun _ hp => hb04.out.cell hp) (Nat.le_refl _)).at (k := k) (by have := hLH.out.1; omega)
      have hlc : (loadCellsFrom ⟨b, off + k * 4, none⟩ 0 4 #[]).run Tryd.prog wr = .ok #[.int .i64 l.c, .int .i64 l.n, .int .i64 l.t, .int .i64 l.f] wr := by
        have := run_loadCells_list (P := Tryd.prog) wr ⟨b, off + k * 4, none⟩ [.int .i64 l.c, .int .i64 l.n, .int .i64 l.t, .int .i64 l.f] (fun j v hv => by
          rw [Addr.add_mid]
          have hj := lt_of_get hv
          rw [hcl j hj]
          match j, hj, hv with
          | 0, _, hv => exact congrArg some (Option.some.inj hv)
          | 1, _, hv => exact congrArg some (Option.some.inj hv)
          | 2, _, hv => exact congrArg some (Option.some.inj hv)
          | 3, _, hv => exact congrArg some (Option.some.inj hv))
        simpa [loadCells] using this
      obtain ⟨w5, hw5, hb5, hB5, hk5⟩ := box_blk wr #[.int .i64 l.c, .int .i64 l.n, .int .i64 l.t, .int .i64 l.f] 83
      have hsc : ∀ c : Array Value, c.size = 4 → (storeCells ⟨wr.heap.size, 0, none⟩ [.int .i64 l.c, .int .i64 l.n, .int .i64 l.t, .int .i64 l.f] 0).run Tryd.prog (wr.alloc (.cells c 83)) = .ok () w5 := fun c hc => by rw [← hw5]; exact store_new wr 83 4 (by kernel_rfl) (rc := #[.int .i64 l.c, .int .i64 l.n, .int .i64 l.t, .int .i64 l.f]) rfl (by simp [Value.oneCell']) c hc
      have hl5 : (loadCellsFrom ⟨wr.heap.size, 0, none⟩ 0 4 #[]).run Tryd.prog w5 = .ok #[.int .i64 l.c, .int .i64 l.n, .int .i64 l.t, .int .i64 l.f] w5 := blk_load (n := 4) hB5 rfl
      have hbd : ∀ wx, Calls Tryd.prog 39 #[.agg #[.int .i64 l.c, .int .i64 l.n, .int .i64 l.t, .int .i64 l.f]] wx (Ret fun r w' => r = .bool (linB l) ∧ Below wx.heap.size wx w') := fun wx => bounded_any l wx
      have hb45 := hide (hbr.out.trans (hb5.mono hbr.out.size))
      have hlH := hide hl
      subst hA
      clear hcl hk5 hB5 hb5 hl
      cases hv : linB l
      · have hres := hide (show p.res.all linB = false from by
          rw [List.all_eq_false]
          exact ⟨l, List.mem_of_getElem? hlH.out, by rw [hv]; decide⟩)
        go_wp2_with (go_at_call 39; refine Calls.ret (hbd _) ?_; rintro v w6 ⟨rfl, hb6⟩; rw [hv])
        go_ret
        refine ⟨congrArg (Value.int .i64) (hR.out.trans ?_).symm, hb03.out.trans ((hb45.out.trans (hb6.mono hb45.out.size)).mono hb03.out.size)⟩
        unfold restR
        rw [hres.out]
        rfl
      · have hres := hide (all_take_more (p := linB) hlH.out hE.out hv)
        go_wp2_with (go_at_call 39; refine Calls.ret (hbd _) ?_; rintro v w6 ⟨rfl, hb6⟩; rw [hv]; have hb46 := hide (hb45.out.trans (hb6.mono hb45.out.size)); clear hb6)
        exact ⟨⟨k + 1, by go_num, by omega, hb46.out, hres.out⟩, by simp [intOf]; omega⟩
    · have hres := hide (show p.res.all linB = true from by
        have h1 := hLH.out.1
        have h2 := hE.out
        rwa [List.take_of_length_le (by omega)] at h2)
      have hR4 := hide (show protE nameOK p = orE (allE id [setE p.initial (ns : Int), whenE ((ni : Int) == 0) 1, setE p.leader (ns : Int)]) (restQ p) from by
        rw [hR.out]
        obtain ⟨-, -, -, -, e5, e6, -⟩ := hLH.out
        have hq : ((ni : Int) == 0) = p.initial.isEmpty := by rw [isEmpty_len, e5, beq0]
        unfold restR restQ
        rw [hres.out, hq, e6]
        simp only [allE, id_eq, orE_self0, orE_assoc, show whenE (!true) 4 = 0 from rfl, orE_zero])
      obtain ⟨e8, hge⟩ : ∃ e, Hid (allE id [setE p.initial (ns : Int), whenE ((ni : Int) == 0) 1, setE p.leader (ns : Int)] = e) := ⟨_, rfl⟩
      rw [hge.out] at hR4
      have hR4H := hide hR4
      clear hres hE hR4
      go_wp2_with fail
      have hX4d := hide (hX4.out.at (drewB wr))
      have hc4d := hX4d.out.b.cell
      have hb04d := hide (hb04.out.trans ((drewB wr).mono hb04.out.size))
      refine Reg.cI [0, 1, 0, 7, 0, 16, 48, 112, 255, 0, 512, 0, 4095, 8191, 16383, 32767] [0, 1, 2, 4, 5, 6, 7, 9, 10, 11, 3, 8, 12, 13, 14, 15] ?_
      refine Reg.wI [0, 1, 2, 4, 5, 6, 7, 9, 10, 11] [3, 8, 12, 13, 14, 15] rfl fun Qf hQf => ?_
      go_wp2_with fail
      first | refine hQf _ _ ⟨rfl, ?_⟩ | refine ⟨rfl, ?_⟩ | refine hQf _ _ ⟨by simp [Reg.fineT, Reg.intOp, Region.wanted, yielded, Reg.intFine, Reg.isInt, Act.eval], ?_⟩
      try clear hQf
      refine Reg.aI 3 [8, 12, 13, 14, 15] [5, 10] rfl fun Qf hQf => ?_
      simp only [gT, gS, gZ]
      go_wp2_with (go_at_call 22; refine Calls.ret (hinit _ hb04d.out) ?_; rintro v w6 ⟨rfl, hb6⟩)
      first | refine hQf _ _ ⟨Reg.same_below (hb6) [5, 10] rfl, ?_⟩ | refine ⟨Reg.same_below (hb6) [5, 10] rfl, ?_⟩
      try clear hQf
      have hX6 := hide (hX4d.out.at hb6)
      have hc6 := hX6.out.b.cell
      have hl6 := blk_load hX6.out.b hpszH.out
      have hb06 := hide (hb04d.out.trans (hb6.mono hb04d.out.size))
      clear hb6
      refine Reg.aI 8 [12, 13, 14, 15] [10] rfl fun Qf hQf => ?_
      simp only [gT, gS, gZ]
      go_wp2_with (go_at_call 25; refine (when_any _ _ _).mono ?_; rintro e w' ⟨rfl, rfl⟩)
      first | refine hQf _ _ ⟨Reg.same_below (Below.refl _ _) [10] rfl, ?_⟩ | refine ⟨Reg.same_below (Below.refl _ _) [10] rfl, ?_⟩
      try clear hQf
      refine Reg.aI 12 [13, 14, 15] [] rfl fun Qf hQf => ?_
      simp only [gT, gS, gZ]
      go_wp2_with (go_at_call 22; refine Calls.ret (hlead _ hb06.out) ?_; rintro v w7 ⟨rfl, hb7⟩)
      first | refine hQf _ _ ⟨Reg.nm, ?_⟩ | refine ⟨Reg.nm, ?_⟩
      try clear hQf
      have hX7 := hide (hX6.out.at hb7)
      have hc7 := hX7.out.b.cell
      have hl7 := blk_load hX7.out.b hpszH.out
      have hb07 := hide (hb06.out.trans (hb7.mono hb06.out.size))
      clear hb7
      obtain ⟨wz, hwz, hbz, hBz, hkz⟩ := box_blk w7 #[.int .i64 (setE p.initial (ns : Int)), .int .i64 (whenE ((ni : Int) == 0) 1), .int .i64 (setE p.leader (ns : Int))] 33
      have hSz := hide (errs_sl (l := [setE p.initial (ns : Int), whenE ((ni : Int) == 0) 1, setE p.leader (ns : Int)]) hBz (by simp))
      clear hBz hkz
      have hXz := hide (hX7.out.at hbz)
      have hcz := hXz.out.b.cell
      have hlz := blk_load hXz.out.b hpszH.out
      have hb0z := hide (hb07.out.trans (hbz.mono hb07.out.size))
      clear hbz
      refine Reg.wI [13] [14, 15] rfl fun Qf hQf => ?_
      go_wp2_with fail
      first | refine hQf _ _ ⟨rfl, ?_⟩ | refine ⟨rfl, ?_⟩ | refine hQf _ _ ⟨by simp [Reg.fineT, Reg.intOp, Region.wanted, yielded, Reg.intFine, Reg.isInt, Act.eval], ?_⟩
      try clear hQf
      refine Reg.aI 14 [15] [] rfl fun Qf hQf => ?_
      simp only [gT, gS, gZ]
      go_wp2_with (go_at_call 24; refine (first_any (l := [setE p.initial (ns : Int), whenE ((ni : Int) == 0) 1, setE p.leader (ns : Int)]) hSz.out).mono ?_; rintro e w' ⟨rfl, rfl⟩; rw [hge.out])
      first | refine hQf _ _ ⟨Reg.nm, ?_⟩ | refine ⟨Reg.nm, ?_⟩
      try clear hQf
      refine Reg.wI [15] [] rfl fun Qf hQf => ?_
      go_wp2_with fail
      first | refine hQf _ _ ⟨rfl, ?_⟩ | refine ⟨rfl, ?_⟩ | refine hQf _ _ ⟨by simp [Reg.fineT, Reg.intOp, Region.wanted, yielded, Reg.intFine, Reg.isInt, Act.eval], ?_⟩
      try clear hQf
      first | refine Reg.restI_end ?_ | skip
      by_cases h08 : e8 = 0
      case neg =>
        have hq8 : (e8 != 0) = true := by simp [h08]
        have h08H := hide h08
        clear h08
        go_wp2_with fail
        go_ret
        exact ⟨congrArg (Value.int .i64) (hR4H.out.trans (orE_ne h08H.out)).symm, hb0z.out⟩
      have hq8 : (e8 != 0) = false := by simp [h08]
      have hR5 := hide (show protE nameOK p = restQ p from by rw [hR4H.out, h08, orE_zero])
      clear h08
      go_wp2_with fail
      go_loopw [142] (fun ii wr => ∃ (k : Nat), ii = .int .i64 (k : Int) ∧ k ≤ nu ∧ Hid (Below wz.heap.size wz wr) ∧ Hid (allE (ruleAtE nameOK p) (List.range k) = 0)) (fun ii _ => nu - (intOf ii).toNat)
      case atStart => exact ⟨0, rfl, Nat.zero_le _, Below.refl _ _, by show _ = _; rfl⟩
      case round =>
        obtain ⟨k, rfl, hk, hbs, hE⟩ := hrel
        have hX8 := hide (hXz.out.at hbs.out)
        have hc8 := hX8.out.b.cell
        have hl8 := blk_load hX8.out.b hpszH.out
        have hb08 := hide (hb0z.out.trans (hbs.out.mono hb0z.out.size))
        by_cases hlt : k < nu
        · obtain ⟨e9, he9⟩ : ∃ e, Hid (ruleAtE nameOK p k = e) := ⟨_, rfl⟩
          have hcall := hide (hrule k _ hlt hX8)
          rw [he9.out] at hcall
          have hx : (List.range p.rules.length)[k]? = some k := by rw [List.getElem?_range (by have := hLH.out.2.2.2.2.2.2; omega)]
          have hxH := hide hx
          have htr : (List.range p.rules.length).take k = List.range k := by rw [List.take_range, Nat.min_eq_left (by have := hLH.out.2.2.2.2.2.2; omega)]
          have htrH := hide htr
          clear hx htr
          by_cases h0 : e9 = 0
          · have hq : (e9 != 0) = false := by simp [h0]
            have hnx := hide (show allE (ruleAtE nameOK p) (List.range (k + 1)) = 0 from by
              have h1 := allE_take (ruleAtE nameOK p) hxH.out (by rw [htrH.out]; exact hE.out)
              rw [List.take_range, Nat.min_eq_left (by have := hLH.out.2.2.2.2.2.2; omega)] at h1
              rw [h1, he9.out, h0])
            clear h0
            go_wp2_with (go_at_call 40; refine Calls.ret hcall.out ?_; rintro v w9 ⟨rfl, hb9⟩; have hb89 := hide (hbs.out.trans (hb9.mono hbs.out.size)); clear hb9)
            exact ⟨⟨k + 1, by go_num, by omega, hb89.out, hnx.out⟩, by simp [intOf]; omega⟩
          · have hq : (e9 != 0) = true := by simp [h0]
            have hst := hide (show protE nameOK p = e9 from by
              have h1 := allE_stop (ruleAtE nameOK p) hxH.out (by rw [htrH.out]; exact hE.out) (by rw [he9.out]; exact h0)
              rw [hR5.out]
              unfold restQ
              rw [h1, he9.out, orE_ne h0])
            clear h0
            go_wp2_with (go_at_call 40; refine Calls.ret hcall.out ?_; rintro v w9 ⟨rfl, hb9⟩; have hb89 := hide (hbs.out.trans (hb9.mono hbs.out.size)); clear hb9)
            go_ret
            exact ⟨congrArg (Value.int .i64) hst.out.symm, hb0z.out.trans (hb89.out.mono hb0z.out.size)⟩
        · obtain ⟨nt, hnt⟩ : ∃ n, n = (thrsL p.rules).length := ⟨_, rfl⟩
          have hR6 := hide (show protE nameOK p = whenE (decide (3 < nt)) 4 from by
            have h1 := hE.out
            rw [show k = p.rules.length by have := hLH.out.2.2.2.2.2.2; omega] at h1
            rw [hR5.out, hnt]
            unfold restQ
            rw [h1, orE_zero])
          have hth := hide (thresholds_any (cs := pc.toList) hX8.out.pr hsmH.out)
          rw [← hnt] at hth
          have hdec := hide (show decide (3 < (nt : Int)) = decide (3 < nt) from by
            rw [decide_eq_decide]
            omega)
          have hnt2 : nt ≤ 1800 := by
            have h1 := thrs_len p.rules (fun r hr => (hsmH.out.rule r hr).1.2.1)
            have h2 := hsmH.out.rules
            omega
          clear hnt hE
          go_wp2_with (first
            | (go_at_call 41; refine Calls.ret hth.out ?_; rintro v w9 ⟨hown, hb9⟩; obtain ⟨Av, cv, hv⟩ := slice_of_own hown; subst hv; have hb09 := hide (hb08.out.trans (hb9.mono hb08.out.size)); clear hown hb9)
            | (go_at_call 25; refine (when_any _ _ _).mono ?_; rintro e w' ⟨rfl, rfl⟩))
          go_ret
          refine ⟨congrArg (Value.int .i64) ?_, hb09.out⟩
          rw [hR6.out, ← hdec.out]
end Go.Proofs.YtbjdgepfhhafjaaDoor
namespace Go.Proofs.YtbjdgepfhhafjaaDoor
open Go.RowKit
attribute [-go_sem] loadCellsFrom storeCells
theorem protValidate_d {w : World} {cs : List Value} {p : ProtD} (h : ProtIs w w.heap.size cs p) (hsm : p.Small) (hT : SpOK w) (hok : nameOK p.name = true) (hct : p.topo ≠ 1) :
    Calls Tryd.prog 20 #[.agg cs.toArray] w (Ret fun v w' => v = .int .i64 (protE nameOK p) ∧ Below w.heap.size w w') := by
  obtain ⟨A1, c1, A2, c2, A3, c3, A4, c4, A5, c5, A6, c6, A7, c7, hpsz, hp0, hp1, hp2, hp3, hp4, hp5, hp6, hp7, hp8, hp9, h1, h2, h3, h4, h5, h6, h7, hcap⟩ := h.cells
  have hn1 := hsm.states
  have hn2 := hsm.messages
  have hn3 := hsm.values
  have hn4 := hsm.res
  have hn5 := hsm.initial
  have hn6 := hsm.leader
  have hn7 := hsm.rules
  have hnm := hsm.name
  have hsmH := hide hsm
  have hS4 := hide h4
  have hS5 := hide h5
  have hS6 := hide h6
  obtain ⟨w1, hw1, hb1, hB1, hk1⟩ := box_blk w cs.toArray 27
  have hX1 := hide (show ProtX w1 w.heap.size cs.toArray p from ⟨h.keep (fun _ hp => hb1.cell hp) hb1.size, hB1, hT.below hb1⟩)
  have hbH := hide hb1
  generalize hpc : cs.toArray = pc at *
  clear h1 h2 h3 h4 h5 h6 h7 h hsm hb1 hB1 hk1 hpc hT
  obtain ⟨nr, hnr⟩ : ∃ n, n = p.res.length := ⟨_, rfl⟩
  obtain ⟨nm, hnmm⟩ : ∃ n, n = p.messages.length := ⟨_, rfl⟩
  obtain ⟨nv, hnv⟩ : ∃ n, n = p.values.length := ⟨_, rfl⟩
  obtain ⟨nl, hnl⟩ : ∃ n, n = p.leader.length := ⟨_, rfl⟩
  obtain ⟨ni, hni⟩ : ∃ n, n = p.initial.length := ⟨_, rfl⟩
  obtain ⟨ns, hns⟩ : ∃ n, n = p.states.length := ⟨_, rfl⟩
  obtain ⟨nu, hnu⟩ : ∃ n, n = p.rules.length := ⟨_, rfl⟩
  have hLH := hide (show nr = p.res.length ∧ nm = p.messages.length ∧ nv = p.values.length ∧ nl = p.leader.length ∧ ni = p.initial.length ∧ ns = p.states.length ∧ nu = p.rules.length from ⟨hnr, hnmm, hnv, hnl, hni, hns, hnu⟩)
  simp only [← hnr, ← hnmm, ← hnv, ← hnl, ← hni, ← hns, ← hnu] at hp2 hp3 hp4 hp6 hp7 hp8 hp9 hn1 hn2 hn3 hn4 hn5 hn6 hn7 hcap
  clear hnr hnmm hnv hnl hni hns hnu
  obtain ⟨kt, hkt⟩ : ∃ n, n = p.topo := ⟨_, rfl⟩
  obtain ⟨kf, hkf⟩ : ∃ n, n = p.fault := ⟨_, rfl⟩
  have hKH := hide (show kt = p.topo ∧ kf = p.fault from ⟨hkt, hkf⟩)
  simp only [← hkt, ← hkf] at hp1 hp5
  clear hkt hkf
  have hpszH := hide hpsz
  clear hpsz
  have hc1 := hX1.out.b.cell
  have hokH := hide hok
  clear hok
  have hP := hide (show protE nameOK p = protV kt kf ns nm nv nr nu nl (namesE nameOK (names3 p)) (restR p) from by
    obtain ⟨e1, e2, e3, e4, e5, e6, e7⟩ := hLH.out
    obtain ⟨f1, f2⟩ := hKH.out
    rw [e1, e2, e3, e4, e6, e7, f1, f2]
    exact protE_V p hokH.out)
  have hnames : ∀ wx, Hid (ProtX wx w.heap.size pc p) → Calls Tryd.prog 38 #[.agg pc] wx (Ret fun v w' => v = .int .i64 (namesE nameOK (names3 p)) ∧ Below wx.heap.size wx w') := fun wx hx => names_any hx.out.pr hsmH.out hx.out.tab
  generalize namesE nameOK (names3 p) = e0 at *
  have hKt : Hid (kt ≠ 1) := by rw [← hKH.out.1] at hct; exact hct
  have hclq : (kt == 1) = false := by simp [hKt.out]
  clear hct
  go_enter Tryd.func20, Tryd.ntmps20
  go_wp2_with (first
    | (go_at_call 21; refine Calls.ret (validName_any p.name _ (by omega) hX1.out.tab) ?_; rintro v w2 ⟨rfl, hb2⟩; rw [hokH.out]; have hX2 := hide (hX1.out.at hb2); have hc2 := hX2.out.b.cell; have hl2 := blk_load hX2.out.b hpszH.out; have hb02 := hide (hbH.out.trans (hb2.mono hbH.out.size)); clear hb2)
    | (go_at_call 38; refine Calls.ret (hnames _ hX2) ?_; rintro v w3 ⟨rfl, hb3⟩; have hX3 := hide (hX2.out.at hb3); have hc3 := hX3.out.b.cell; have hb03 := hide (hb02.out.trans (hb3.mono hb02.out.size)); clear hb3))
  all_goals first
    | (go_ret
       refine ⟨congrArg (Value.int .i64) (hP.out.trans ?_).symm, ?_⟩
       · first
           | exact pv2 (by omega)
           | exact pv3 (by omega) (by assumption)
           | exact pv4 (by omega) (by assumption) (by omega)
           | exact pv5 (by omega) (by assumption) (by omega) (by assumption)
           | exact pv6 (by omega) (by assumption) (by omega) (by assumption) (by have := hKt.out; omega)
       · first
           | exact hb03.out
           | exact hb02.out)
    | (have hR := hide (hP.out.trans (pv7 (by omega) (by assumption) (by omega) (by assumption) (by have := hKt.out; omega))))
  have hnr0 := hide (show nr = 0 by omega)
  rename_i z0 z1 z2 z3 z4 z5 z6 z7 z8 z9 z10 z11 z12 z13 z14 zK zQ
  clear z0 z1 z2 z3 z4 z5 z6 z7 z8 z9 z10 z11 z12 z13 z14
  clear hP
  have hrule : ∀ (k : Nat) (wx : World), k < nu → Hid (ProtX wx w.heap.size pc p) → Calls Tryd.prog 40 #[.agg pc, .int .i64 (k : Int)] wx (Ret fun v w' => v = .int .i64 (ruleAtE nameOK p k) ∧ Below wx.heap.size wx w') := by
    intro k wx hk hx
    obtain ⟨r, hr⟩ : ∃ r, p.rules[k]? = some r := ⟨_, List.getElem?_eq_getElem (by have := hLH.out.2.2.2.2.2.2; omega)⟩
    have h0 := hsmH.out.rule r (List.mem_of_getElem? hr)
    have h1 := ruleError_any (cs := pc.toList) hx.out.pr hr h0.1 (by have := h0.2; omega) hx.out.tab
    rw [rule_same _ _ _ _ _ (by omega)] at h1
    have h2 : ruleAtE nameOK p k = ruleE nameOK p.topo p.states.length p.messages.length p.values.length ((p.rules.take k).any fun x => decide (x.name = r.name)) r := by
      unfold ruleAtE
      rw [hr]
    rw [h2]
    exact h1
  have hinit : ∀ wx, Below w.heap.size w wx → Calls Tryd.prog 22 #[.slice A5 ni c5, .int .i64 (ns : Int)] wx (Ret fun r w' => r = .int .i64 (setE p.initial (ns : Int)) ∧ Below wx.heap.size wx w') := fun wx hx => by
    rw [hLH.out.2.2.2.2.1]
    exact set_any (hS5.out.keep (fun _ hp => hx.cell hp) hx.size)
  have hlead : ∀ wx, Below w.heap.size w wx → Calls Tryd.prog 22 #[.slice A6 nl c6, .int .i64 (ns : Int)] wx (Ret fun r w' => r = .int .i64 (setE p.leader (ns : Int)) ∧ Below wx.heap.size wx w') := fun wx hx => by
    rw [hLH.out.2.2.2.1]
    exact set_any (hS6.out.keep (fun _ hp => hx.cell hp) hx.size)
  go_loopw [113] (fun ii wr => ∃ (k : Nat), ii = .int .i64 (k : Int) ∧ k ≤ 0 ∧ Hid (Below w3.heap.size w3 wr) ∧ Hid ((p.res.take k).all linB = true)) (fun ii _ => 0 - (intOf ii).toNat)
  case atStart => exact ⟨0, rfl, Nat.zero_le _, Below.refl _ _, by show _ = _; simp⟩
  case round =>
    obtain ⟨k, rfl, hk, hbr, hE⟩ := hrel
    have hX4 := hide (hX3.out.at hbr.out)
    have hc4 := hX4.out.b.cell
    have hb04 := hide (hb03.out.trans (hbr.out.mono hb03.out.size))
    by_cases hlt : k < 0
    · exfalso
      omega
    · have hres := hide (show p.res.all linB = true from by
        have h1 := hLH.out.1
        have h2 := hE.out
        have h3 := hnr0.out
        rwa [List.take_of_length_le (by omega)] at h2)
      have hR4 := hide (show protE nameOK p = orE (allE id [setE p.initial (ns : Int), whenE ((ni : Int) == 0) 1, setE p.leader (ns : Int)]) (restQ p) from by
        rw [hR.out]
        obtain ⟨-, -, -, -, e5, e6, -⟩ := hLH.out
        have hq : ((ni : Int) == 0) = p.initial.isEmpty := by rw [isEmpty_len, e5, beq0]
        unfold restR restQ
        rw [hres.out, hq, e6]
        simp only [allE, id_eq, orE_self0, orE_assoc, show whenE (!true) 4 = 0 from rfl, orE_zero])
      obtain ⟨e8, hge⟩ : ∃ e, Hid (allE id [setE p.initial (ns : Int), whenE ((ni : Int) == 0) 1, setE p.leader (ns : Int)] = e) := ⟨_, rfl⟩
      rw [hge.out] at hR4
      have hR4H := hide hR4
      clear hres hE hR4
      go_wp2_with fail
      have hX4d := hide (hX4.out.at (drewB wr))
      have hc4d := hX4d.out.b.cell
      have hb04d := hide (hb04.out.trans ((drewB wr).mono hb04.out.size))
      refine Reg.cI [0, 1, 0, 7, 0, 16, 48, 112, 255, 0, 512, 0, 4095, 8191, 16383, 32767] [0, 1, 2, 4, 5, 6, 7, 9, 10, 11, 3, 8, 12, 13, 14, 15] ?_
      refine Reg.wI [0, 1, 2, 4, 5, 6, 7, 9, 10, 11] [3, 8, 12, 13, 14, 15] rfl fun Qf hQf => ?_
      go_wp2_with fail
      first | refine hQf _ _ ⟨rfl, ?_⟩ | refine ⟨rfl, ?_⟩ | refine hQf _ _ ⟨by simp [Reg.fineT, Reg.intOp, Region.wanted, yielded, Reg.intFine, Reg.isInt, Act.eval], ?_⟩
      try clear hQf
      refine Reg.aI 3 [8, 12, 13, 14, 15] [5, 10] rfl fun Qf hQf => ?_
      simp only [gT, gS, gZ]
      go_wp2_with (go_at_call 22; refine Calls.ret (hinit _ hb04d.out) ?_; rintro v w6 ⟨rfl, hb6⟩)
      first | refine hQf _ _ ⟨Reg.same_below (hb6) [5, 10] rfl, ?_⟩ | refine ⟨Reg.same_below (hb6) [5, 10] rfl, ?_⟩
      try clear hQf
      have hX6 := hide (hX4d.out.at hb6)
      have hc6 := hX6.out.b.cell
      have hl6 := blk_load hX6.out.b hpszH.out
      have hb06 := hide (hb04d.out.trans (hb6.mono hb04d.out.size))
      clear hb6
      refine Reg.aI 8 [12, 13, 14, 15] [10] rfl fun Qf hQf => ?_
      simp only [gT, gS, gZ]
      go_wp2_with (go_at_call 25; refine (when_any _ _ _).mono ?_; rintro e w' ⟨rfl, rfl⟩)
      first | refine hQf _ _ ⟨Reg.same_below (Below.refl _ _) [10] rfl, ?_⟩ | refine ⟨Reg.same_below (Below.refl _ _) [10] rfl, ?_⟩
      try clear hQf
      refine Reg.aI 12 [13, 14, 15] [] rfl fun Qf hQf => ?_
      simp only [gT, gS, gZ]
      go_wp2_with (go_at_call 22; refine Calls.ret (hlead _ hb06.out) ?_; rintro v w7 ⟨rfl, hb7⟩)
      first | refine hQf _ _ ⟨Reg.nm, ?_⟩ | refine ⟨Reg.nm, ?_⟩
      try clear hQf
      have hX7 := hide (hX6.out.at hb7)
      have hc7 := hX7.out.b.cell
      have hl7 := blk_load hX7.out.b hpszH.out
      have hb07 := hide (hb06.out.trans (hb7.mono hb06.out.size))
      clear hb7
      obtain ⟨wz, hwz, hbz, hBz, hkz⟩ := box_blk w7 #[.int .i64 (setE p.initial (ns : Int)), .int .i64 (whenE ((ni : Int) == 0) 1), .int .i64 (setE p.leader (ns : Int))] 33
      have hSz := hide (errs_sl (l := [setE p.initial (ns : Int), whenE ((ni : Int) == 0) 1, setE p.leader (ns : Int)]) hBz (by simp))
      clear hBz hkz
      have hXz := hide (hX7.out.at hbz)
      have hcz := hXz.out.b.cell
      have hlz := blk_load hXz.out.b hpszH.out
      have hb0z := hide (hb07.out.trans (hbz.mono hb07.out.size))
      clear hbz
      refine Reg.wI [13] [14, 15] rfl fun Qf hQf => ?_
      go_wp2_with fail
      first | refine hQf _ _ ⟨rfl, ?_⟩ | refine ⟨rfl, ?_⟩ | refine hQf _ _ ⟨by simp [Reg.fineT, Reg.intOp, Region.wanted, yielded, Reg.intFine, Reg.isInt, Act.eval], ?_⟩
      try clear hQf
      refine Reg.aI 14 [15] [] rfl fun Qf hQf => ?_
      simp only [gT, gS, gZ]
      go_wp2_with (go_at_call 24; refine (first_any (l := [setE p.initial (ns : Int), whenE ((ni : Int) == 0) 1, setE p.leader (ns : Int)]) hSz.out).mono ?_; rintro e w' ⟨rfl, rfl⟩; rw [hge.out])
      first | refine hQf _ _ ⟨Reg.nm, ?_⟩ | refine ⟨Reg.nm, ?_⟩
      try clear hQf
      refine Reg.wI [15] [] rfl fun Qf hQf => ?_
      go_wp2_with fail
      first | refine hQf _ _ ⟨rfl, ?_⟩ | refine ⟨rfl, ?_⟩ | refine hQf _ _ ⟨by simp [Reg.fineT, Reg.intOp, Region.wanted, yielded, Reg.intFine, Reg.isInt, Act.eval], ?_⟩
      try clear hQf
      first | refine Reg.restI_end ?_ | skip
      by_cases h08 : e8 = 0
      case neg =>
        have hq8 : (e8 != 0) = true := by simp [h08]
        have h08H := hide h08
        clear h08
        go_wp2_with fail
        go_ret
        exact ⟨congrArg (Value.int .i64) (hR4H.out.trans (orE_ne h08H.out)).symm, hb0z.out⟩
      have hq8 : (e8 != 0) = false := by simp [h08]
      have hR5 := hide (show protE nameOK p = restQ p from by rw [hR4H.out, h08, orE_zero])
      clear h08
      go_wp2_with fail
      go_loopw [142] (fun ii wr => ∃ (k : Nat), ii = .int .i64 (k : Int) ∧ k ≤ nu ∧ Hid (Below wz.heap.size wz wr) ∧ Hid (allE (ruleAtE nameOK p) (List.range k) = 0)) (fun ii _ => nu - (intOf ii).toNat)
      case atStart => exact ⟨0, rfl, Nat.zero_le _, Below.refl _ _, by show _ = _; rfl⟩
      case round =>
        obtain ⟨k, rfl, hk, hbs, hE⟩ := hrel
        have hX8 := hide (hXz.out.at hbs.out)
        have hc8 := hX8.out.b.cell
        have hl8 := blk_load hX8.out.b hpszH.out
        have hb08 := hide (hb0z.out.trans (hbs.out.mono hb0z.out.size))
        by_cases hlt : k < nu
        · obtain ⟨e9, he9⟩ : ∃ e, Hid (ruleAtE nameOK p k = e) := ⟨_, rfl⟩
          have hcall := hide (hrule k _ hlt hX8)
          rw [he9.out] at hcall
          have hx : (List.range p.rules.length)[k]? = some k := by rw [List.getElem?_range (by have := hLH.out.2.2.2.2.2.2; omega)]
          have hxH := hide hx
          have htr : (List.range p.rules.length).take k = List.range k := by rw [List.take_range, Nat.min_eq_left (by have := hLH.out.2.2.2.2.2.2; omega)]
          have htrH := hide htr
          clear hx htr
          by_cases h0 : e9 = 0
          · have hq : (e9 != 0) = false := by simp [h0]
            have hnx := hide (show allE (ruleAtE nameOK p) (List.range (k + 1)) = 0 from by
              have h1 := allE_take (ruleAtE nameOK p) hxH.out (by rw [htrH.out]; exact hE.out)
              rw [List.take_range, Nat.min_eq_left (by have := hLH.out.2.2.2.2.2.2; omega)] at h1
              rw [h1, he9.out, h0])
            clear h0
            go_wp2_with (go_at_call 40; refine Calls.ret hcall.out ?_; rintro v w9 ⟨rfl, hb9⟩; have hb89 := hide (hbs.out.trans (hb9.mono hbs.out.size)); clear hb9)
            exact ⟨⟨k + 1, by go_num, by omega, hb89.out, hnx.out⟩, by simp [intOf]; omega⟩
          · have hq : (e9 != 0) = true := by simp [h0]
            have hst := hide (show protE nameOK p = e9 from by
              have h1 := allE_stop (ruleAtE nameOK p) hxH.out (by rw [htrH.out]; exact hE.out) (by rw [he9.out]; exact h0)
              rw [hR5.out]
              unfold restQ
              rw [h1, he9.out, orE_ne h0])
            clear h0
            go_wp2_with (go_at_call 40; refine Calls.ret hcall.out ?_; rintro v w9 ⟨rfl, hb9⟩; have hb89 := hide (hbs.out.trans (hb9.mono hbs.out.size)); clear hb9)
            go_ret
            exact ⟨congrArg (Value.int .i64) hst.out.symm, hb0z.out.trans (hb89.out.mono hb0z.out.size)⟩
        · obtain ⟨nt, hnt⟩ : ∃ n, n = (thrsL p.rules).length := ⟨_, rfl⟩
          have hR6 := hide (show protE nameOK p = whenE (decide (3 < nt)) 4 from by
            have h1 := hE.out
            rw [show k = p.rules.length by have := hLH.out.2.2.2.2.2.2; omega] at h1
            rw [hR5.out, hnt]
            unfold restQ
            rw [h1, orE_zero])
          have hth := hide (thresholds_any (cs := pc.toList) hX8.out.pr hsmH.out)
          rw [← hnt] at hth
          have hdec := hide (show decide (3 < (nt : Int)) = decide (3 < nt) from by
            rw [decide_eq_decide]
            omega)
          have hnt2 : nt ≤ 1800 := by
            have h1 := thrs_len p.rules (fun r hr => (hsmH.out.rule r hr).1.2.1)
            have h2 := hsmH.out.rules
            omega
          clear hnt hE
          go_wp2_with (first
            | (go_at_call 41; refine Calls.ret hth.out ?_; rintro v w9 ⟨hown, hb9⟩; obtain ⟨Av, cv, hv⟩ := slice_of_own hown; subst hv; have hb09 := hide (hb08.out.trans (hb9.mono hb08.out.size)); clear hown hb9)
            | (go_at_call 25; refine (when_any _ _ _).mono ?_; rintro e w' ⟨rfl, rfl⟩))
          go_ret
          refine ⟨congrArg (Value.int .i64) ?_, hb09.out⟩
          rw [hR6.out, ← hdec.out]
end Go.Proofs.YtbjdgepfhhafjaaDoor
namespace Go.Proofs.YtbjdgepfhhafjaaDoor
open Go.RowKit
attribute [-go_sem] loadCellsFrom storeCells
theorem protValidate_e {w : World} {cs : List Value} {p : ProtD} (h : ProtIs w w.heap.size cs p) (hsm : p.Small) (hT : SpOK w) (hok : nameOK p.name = false) :
  Calls Tryd.prog 20 #[.agg cs.toArray] w (Ret fun v w' => v = .int .i64 (protE nameOK p) ∧ Below w.heap.size w w') := by
 obtain ⟨A1, c1, A2, c2, A3, c3, A4, c4, A5, c5, A6, c6, A7, c7, hpsz, hp0, hp1, hp2, hp3, hp4, hp5, hp6, hp7, hp8, hp9, h1, h2, h3, h4, h5, h6, h7, hcap⟩ := h.cells
 have hn1 := hsm.states
 have hn2 := hsm.messages
 have hn3 := hsm.values
 have hn4 := hsm.res
 have hn5 := hsm.initial
 have hn6 := hsm.leader
 have hn7 := hsm.rules
 have hnm := hsm.name
 have hsmH := hide hsm
 have hS4 := hide h4
 have hS5 := hide h5
 have hS6 := hide h6
 obtain ⟨w1, hw1, hb1, hB1, hk1⟩ := box_blk w cs.toArray 27
 have hX1 := hide (show ProtX w1 w.heap.size cs.toArray p from ⟨h.keep (fun _ hp => hb1.cell hp) hb1.size, hB1, hT.below hb1⟩)
 have hbH := hide hb1
 generalize hpc : cs.toArray = pc at *
 clear h1 h2 h3 h4 h5 h6 h7 h hsm hb1 hB1 hk1 hpc hT
 obtain ⟨nr, hnr⟩ : ∃ n, n = p.res.length := ⟨_, rfl⟩
 obtain ⟨nm, hnmm⟩ : ∃ n, n = p.messages.length := ⟨_, rfl⟩
 obtain ⟨nv, hnv⟩ : ∃ n, n = p.values.length := ⟨_, rfl⟩
 obtain ⟨nl, hnl⟩ : ∃ n, n = p.leader.length := ⟨_, rfl⟩
 obtain ⟨ni, hni⟩ : ∃ n, n = p.initial.length := ⟨_, rfl⟩
 obtain ⟨ns, hns⟩ : ∃ n, n = p.states.length := ⟨_, rfl⟩
 obtain ⟨nu, hnu⟩ : ∃ n, n = p.rules.length := ⟨_, rfl⟩
 have hLH := hide (show nr = p.res.length ∧ nm = p.messages.length ∧ nv = p.values.length ∧ nl = p.leader.length ∧ ni = p.initial.length ∧ ns = p.states.length ∧ nu = p.rules.length from ⟨hnr, hnmm, hnv, hnl, hni, hns, hnu⟩)
 simp only [← hnr, ← hnmm, ← hnv, ← hnl, ← hni, ← hns, ← hnu] at hp2 hp3 hp4 hp6 hp7 hp8 hp9 hn1 hn2 hn3 hn4 hn5 hn6 hn7 hcap
 clear hnr hnmm hnv hnl hni hns hnu
 obtain ⟨kt, hkt⟩ : ∃ n, n = p.topo := ⟨_, rfl⟩
 obtain ⟨kf, hkf⟩ : ∃ n, n = p.fault := ⟨_, rfl⟩
 have hKH := hide (show kt = p.topo ∧ kf = p.fault from ⟨hkt, hkf⟩)
 simp only [← hkt, ← hkf] at hp1 hp5
 clear hkt hkf
 have hpszH := hide hpsz
 clear hpsz
 have hc1 := hX1.out.b.cell
 have hokH := hide hok
 clear hok
 go_enter Tryd.func20, Tryd.ntmps20
 go_wp2_with (go_at_call 21; refine Calls.ret (validName_any p.name _ (by omega) hX1.out.tab) ?_; rintro v w2 ⟨rfl, hb2⟩; rw [hokH.out])
 go_ret
 exact ⟨by unfold protE; rw [hokH.out]; rfl, hbH.out.trans (hb2.mono hbH.out.size)⟩
theorem protValidate_any {w : World} {cs : List Value} {p : ProtD} (h : ProtIs w w.heap.size cs p) (hsm : p.Small) (hT : SpOK w) :
  Calls Tryd.prog 20 #[.agg cs.toArray] w (Ret fun v w' => v = .int .i64 (protE nameOK p) ∧ Below w.heap.size w w') := by
 cases hok : nameOK p.name
 ·exact protValidate_e h hsm hT hok
 ·by_cases ht : p.topo = 1
  ·exact protValidate_c h hsm hT hok ht
  ·exact protValidate_d h hsm hT hok ht
end Go.Proofs.YtbjdgepfhhafjaaDoor
namespace Go.Proofs.YtbjdgepfhhafjaaDoor
open Go.RowKit
attribute [-go_sem] loadCellsFrom storeCells
theorem when_var (b : Bool) (e : Int) (w : World) : Calls Tryd.prog 25 #[.bool b, .int .i64 e] w (Ret fun r w' => (∃ x, r = .int .i64 x ∧ Hid (x = whenE b e)) ∧ w = w') :=
 (when_any b e w).mono fun r w' h => by
  obtain ⟨rfl, rfl⟩ := h
  exact ⟨⟨_, rfl, rfl⟩, rfl⟩
theorem counts_any {w : World} {A : Option Addr} {cc : Nat} {l : List CountD} {n : Int} (h : RowsOf w w.heap.size 2 (CountIs w w.heap.size) A l) :
  Calls Tryd.prog 26 #[.slice A l.length cc, .int .i64 n] w (Ret fun v w' => v = .int .i64 (allE (countE n) l) ∧ Below w.heap.size w w') := by
 have hH := hide h
 have hn := h.1
 clear h
 go_enter Tryd.func26, Tryd.ntmps26
 go_wp2_with fail
 go_loopw [10] (fun ii wr => ∃ (k : Nat), ii = .int .i64 (k : Int) ∧ k ≤ l.length ∧ Hid (Below w.heap.size w wr) ∧ Hid (allE (countE n) (l.take k) = 0)) (fun ii _ => l.length - (intOf ii).toNat)
 case atStart => exact ⟨0, rfl, Nat.zero_le _, Below.refl _ _, by show _ = _; rfl⟩
 case round =>
  obtain ⟨k, rfl, hk, hB, hE⟩ := hrel
  by_cases hlt : k < l.length
  case neg =>
   have hE2 := hE.out
   rw [show k = l.length by omega, List.take_length] at hE2
   have hE3 := hide hE2
   clear hE2 hE
   go_wp2_with fail
   go_ret
   exact ⟨by rw [hE3.out]; rfl, hB.out⟩
  obtain ⟨b, off, c, cs, hA, hbk, he, hsz, hcs, hR⟩ := (hH.out.keep (w' := wr) (B' := w.heap.size) (R' := CountIs wr w.heap.size) (fun _ hp => hB.out.cell hp) (fun _ _ h => h.keep (fun _ hp => hB.out.cell hp) (Nat.le_refl _)) (Nat.le_refl _)).at hlt
  obtain ⟨E1, f1, rfl, hS⟩ := hR
  have hlc : (loadCellsFrom ⟨b, off + k * 2, none⟩ 0 2 #[]).run Tryd.prog wr = .ok #[.slice E1 c.states.length f1, .int .i64 c.least] wr := by
   have := run_loadCells_list (P := Tryd.prog) wr ⟨b, off + k * 2, none⟩ [.slice E1 c.states.length f1, .int .i64 c.least] (fun j v hv => by rw [Addr.add_mid]; exact hcs j v hv)
   simpa [loadCells] using this
  obtain ⟨w5, hw5, hb5, hB5, hk5⟩ := box_blk wr #[.slice E1 c.states.length f1, .int .i64 c.least] 54
  have hsc : ∀ cq : Array Value, cq.size = 2 → (storeCells ⟨wr.heap.size, 0, none⟩ [.slice E1 c.states.length f1, .int .i64 c.least] 0).run Tryd.prog (wr.alloc (.cells cq 54)) = .ok () w5 := fun cq hc => by rw [← hw5]; exact store_new wr 54 2 (by kernel_rfl) (rc := #[.slice E1 c.states.length f1, .int .i64 c.least]) rfl (by simp [Value.oneCell']) cq hc
  have hc5 := hB5.cell
  have hB5H := hide hB5
  have hb05 := hide (hB.out.trans (hb5.mono hB.out.size))
  have hb05d := hide (hb05.out.trans ((drewB w5).mono hb05.out.size))
  have hset : ∀ wx, Below w.heap.size w wx → Calls Tryd.prog 22 #[.slice E1 c.states.length f1, .int .i64 n] wx (Ret fun r w' => r = .int .i64 (setE c.states n) ∧ Below wx.heap.size wx w') := fun wx hx =>
   set_any ((hS.keep (w' := w) (B' := w.heap.size) (fun _ hp => (hB.out.cell hp).symm) (Nat.le_refl _)).keep (fun _ hp => hx.cell hp) hx.size)
  have hsetH := hide hset
  have heH := hide he
  have hlen := hS.1
  obtain ⟨ns, hns⟩ : ∃ m, m = c.states.length := ⟨_, rfl⟩
  have hemp := hide (show ((ns : Int) == 0) = c.states.isEmpty by rw [isEmpty_len, beq0, hns])
  rw [← hns] at hsetH hc5 hsc hlc hw5 hlen
  obtain ⟨e8, hge8⟩ : ∃ e, Hid (countE n c = e) := ⟨_, rfl⟩
  subst hA
  clear hcs hset he hS hk5 hB5 hb5 hns
  cases hcase : ((ns : Int) == 0)
  case true =>
   have hq : ((ns : Int) == 0) = true := hcase
   clear hcase
   by_cases h08 : e8 = 0
   ·have hq8 : (e8 != 0) = false := by simp [h08]
    have hnx := hide (show allE (countE n) (l.take (k + 1)) = 0 from by rw [allE_take (countE n) heH.out hE.out, hge8.out, h08])
    clear h08
    go_wp2_with fail
    refine Reg.cI [0, 1, 0, 7, 0, 16, 48, 112, 255, 511, 1023, 2047, 4095, 8191, 16383, 32767, 65535, 131071, 262143, 524287, 1048575, 2097151] [0, 1, 2, 4, 5, 6, 7, 3, 8, 9, 10, 11, 12, 13, 14, 15, 16, 17, 18, 19, 20, 21] ?_
    refine Reg.wI [0, 1, 2, 4, 5, 6, 7] [3, 8, 9, 10, 11, 12, 13, 14, 15, 16, 17, 18, 19, 20, 21] rfl fun Qf hQf => ?_
    go_wp2_with fail
    first | refine hQf _ _ ⟨rfl, ?_⟩ | refine ⟨rfl, ?_⟩ | refine hQf _ _ ⟨by simp [Reg.fineT, Reg.intOp, Region.wanted, yielded, Reg.intFine, Reg.isInt, Act.eval], ?_⟩
    try clear hQf
    refine Reg.aI 3 [8, 9, 10, 11, 12, 13, 14, 15, 16, 17, 18, 19, 20, 21] [5] rfl fun Qf hQf => ?_
    simp only [gT, gS, gZ]
    go_wp2_with (go_at_call 22; refine Calls.ret (hsetH.out _ hb05d.out) ?_; rintro v w6 ⟨rfl, hb6⟩)
    first | refine hQf _ _ ⟨Reg.same_below (hb6) [5] rfl, ?_⟩ | refine ⟨Reg.same_below (hb6) [5] rfl, ?_⟩
    try clear hQf
    have hc6 := (hB5H.out.below ((drewB w5).trans hb6)).cell
    have hb06 := hide (hb05d.out.trans (hb6.mono hb05d.out.size))
    clear hb6
    refine Reg.wI [8, 9, 10, 11, 12, 13, 14, 15, 16, 17] [18, 19, 20, 21] rfl fun Qf hQf => ?_
    go_wp2_with fail
    first | refine hQf _ _ ⟨rfl, ?_⟩ | refine ⟨rfl, ?_⟩ | refine hQf _ _ ⟨by simp [Reg.fineT, Reg.intOp, Region.wanted, yielded, Reg.intFine, Reg.isInt, Act.eval], ?_⟩
    try clear hQf
    refine Reg.aI 18 [19, 20, 21] [] rfl fun Qf hQf => ?_
    simp only [gT, gS, gZ]
    go_wp2_with (go_at_call 25; refine Calls.ret (when_var _ _ _) ?_; rintro r w' ⟨⟨x, rfl, hx⟩, rfl⟩)
    first | refine hQf _ _ ⟨Reg.nm, ?_⟩ | refine ⟨Reg.nm, ?_⟩
    try clear hQf
    have hge := hide (show allE id [setE c.states n, x] = e8 from by
     simp only [allE, id_eq, orE_self0]
     rw [← hge8.out]
     unfold countE
     congr 1
     rw [hx.out]
     congr 1
     rw [← hemp.out, hq]
     rfl
    )
    obtain ⟨wz, hwz, hbz, hBz, hkz⟩ := box_blk w6 #[.int .i64 (setE c.states n), .int .i64 (x)] 33
    have hSz := hide (errs_sl (l := [setE c.states n, x]) hBz (by simp))
    have hb0z := hide (hb06.out.trans (hbz.mono hb06.out.size))
    clear hBz hkz hbz
    refine Reg.wI [19] [20, 21] rfl fun Qf hQf => ?_
    go_wp2_with fail
    first | refine hQf _ _ ⟨rfl, ?_⟩ | refine ⟨rfl, ?_⟩ | refine hQf _ _ ⟨by simp [Reg.fineT, Reg.intOp, Region.wanted, yielded, Reg.intFine, Reg.isInt, Act.eval], ?_⟩
    try clear hQf
    refine Reg.aI 20 [21] [] rfl fun Qf hQf => ?_
    simp only [gT, gS, gZ]
    go_wp2_with (go_at_call 24; refine (first_any (l := [setE c.states n, x]) hSz.out).mono ?_; rintro e w' ⟨rfl, rfl⟩; rw [hge.out])
    first | refine hQf _ _ ⟨Reg.nm, ?_⟩ | refine ⟨Reg.nm, ?_⟩
    try clear hQf
    refine Reg.wI [21] [] rfl fun Qf hQf => ?_
    go_wp2_with fail
    first | refine hQf _ _ ⟨rfl, ?_⟩ | refine ⟨rfl, ?_⟩ | refine hQf _ _ ⟨by simp [Reg.fineT, Reg.intOp, Region.wanted, yielded, Reg.intFine, Reg.isInt, Act.eval], ?_⟩
    try clear hQf
    first | refine Reg.restI_end ?_ | skip
    go_wp2_with fail
    exact ⟨⟨k + 1, by go_num, by omega, hb0z.out, hnx.out⟩, by simp [intOf]; omega⟩
   ·have hq8 : (e8 != 0) = true := by simp [h08]
    have hst := hide (show allE (countE n) l = e8 from by rw [allE_stop (countE n) heH.out hE.out (by rw [hge8.out]; exact h08), hge8.out])
    clear h08
    go_wp2_with fail
    refine Reg.cI [0, 1, 0, 7, 0, 16, 48, 112, 255, 511, 1023, 2047, 4095, 8191, 16383, 32767, 65535, 131071, 262143, 524287, 1048575, 2097151] [0, 1, 2, 4, 5, 6, 7, 3, 8, 9, 10, 11, 12, 13, 14, 15, 16, 17, 18, 19, 20, 21] ?_
    refine Reg.wI [0, 1, 2, 4, 5, 6, 7] [3, 8, 9, 10, 11, 12, 13, 14, 15, 16, 17, 18, 19, 20, 21] rfl fun Qf hQf => ?_
    go_wp2_with fail
    first | refine hQf _ _ ⟨rfl, ?_⟩ | refine ⟨rfl, ?_⟩ | refine hQf _ _ ⟨by simp [Reg.fineT, Reg.intOp, Region.wanted, yielded, Reg.intFine, Reg.isInt, Act.eval], ?_⟩
    try clear hQf
    refine Reg.aI 3 [8, 9, 10, 11, 12, 13, 14, 15, 16, 17, 18, 19, 20, 21] [5] rfl fun Qf hQf => ?_
    simp only [gT, gS, gZ]
    go_wp2_with (go_at_call 22; refine Calls.ret (hsetH.out _ hb05d.out) ?_; rintro v w6 ⟨rfl, hb6⟩)
    first | refine hQf _ _ ⟨Reg.same_below (hb6) [5] rfl, ?_⟩ | refine ⟨Reg.same_below (hb6) [5] rfl, ?_⟩
    try clear hQf
    have hc6 := (hB5H.out.below ((drewB w5).trans hb6)).cell
    have hb06 := hide (hb05d.out.trans (hb6.mono hb05d.out.size))
    clear hb6
    refine Reg.wI [8, 9, 10, 11, 12, 13, 14, 15, 16, 17] [18, 19, 20, 21] rfl fun Qf hQf => ?_
    go_wp2_with fail
    first | refine hQf _ _ ⟨rfl, ?_⟩ | refine ⟨rfl, ?_⟩ | refine hQf _ _ ⟨by simp [Reg.fineT, Reg.intOp, Region.wanted, yielded, Reg.intFine, Reg.isInt, Act.eval], ?_⟩
    try clear hQf
    refine Reg.aI 18 [19, 20, 21] [] rfl fun Qf hQf => ?_
    simp only [gT, gS, gZ]
    go_wp2_with (go_at_call 25; refine Calls.ret (when_var _ _ _) ?_; rintro r w' ⟨⟨x, rfl, hx⟩, rfl⟩)
    first | refine hQf _ _ ⟨Reg.nm, ?_⟩ | refine ⟨Reg.nm, ?_⟩
    try clear hQf
    have hge := hide (show allE id [setE c.states n, x] = e8 from by
     simp only [allE, id_eq, orE_self0]
     rw [← hge8.out]
     unfold countE
     congr 1
     rw [hx.out]
     congr 1
     rw [← hemp.out, hq]
     rfl
    )
    obtain ⟨wz, hwz, hbz, hBz, hkz⟩ := box_blk w6 #[.int .i64 (setE c.states n), .int .i64 (x)] 33
    have hSz := hide (errs_sl (l := [setE c.states n, x]) hBz (by simp))
    have hb0z := hide (hb06.out.trans (hbz.mono hb06.out.size))
    clear hBz hkz hbz
    refine Reg.wI [19] [20, 21] rfl fun Qf hQf => ?_
    go_wp2_with fail
    first | refine hQf _ _ ⟨rfl, ?_⟩ | refine ⟨rfl, ?_⟩ | refine hQf _ _ ⟨by simp [Reg.fineT, Reg.intOp, Region.wanted, yielded, Reg.intFine, Reg.isInt, Act.eval], ?_⟩
    try clear hQf
    refine Reg.aI 20 [21] [] rfl fun Qf hQf => ?_
    simp only [gT, gS, gZ]
    go_wp2_with (go_at_call 24; refine (first_any (l := [setE c.states n, x]) hSz.out).mono ?_; rintro e w' ⟨rfl, rfl⟩; rw [hge.out])
    first | refine hQf _ _ ⟨Reg.nm, ?_⟩ | refine ⟨Reg.nm, ?_⟩
    try clear hQf
    refine Reg.wI [21] [] rfl fun Qf hQf => ?_
    go_wp2_with fail
    first | refine hQf _ _ ⟨rfl, ?_⟩ | refine ⟨rfl, ?_⟩ | refine hQf _ _ ⟨by simp [Reg.fineT, Reg.intOp, Region.wanted, yielded, Reg.intFine, Reg.isInt, Act.eval], ?_⟩
    try clear hQf
    first | refine Reg.restI_end ?_ | skip
    go_wp2_with fail
    go_ret
    exact ⟨by rw [hst.out]; rfl, hb0z.out⟩
  case false =>
   by_cases hl : c.least < 1
   ·have hq : ((ns : Int) == 0) = false := hcase
    clear hcase
    by_cases h08 : e8 = 0
    ·have hq8 : (e8 != 0) = false := by simp [h08]
     have hnx := hide (show allE (countE n) (l.take (k + 1)) = 0 from by rw [allE_take (countE n) heH.out hE.out, hge8.out, h08])
     clear h08
     go_wp2_with fail
     refine Reg.cI [0, 1, 0, 7, 0, 16, 48, 112, 255, 511, 1023, 2047, 4095, 8191, 16383, 32767, 65535, 131071, 262143, 524287, 1048575, 2097151] [0, 1, 2, 4, 5, 6, 7, 3, 8, 9, 10, 11, 12, 13, 14, 15, 16, 17, 18, 19, 20, 21] ?_
     refine Reg.wI [0, 1, 2, 4, 5, 6, 7] [3, 8, 9, 10, 11, 12, 13, 14, 15, 16, 17, 18, 19, 20, 21] rfl fun Qf hQf => ?_
     go_wp2_with fail
     first | refine hQf _ _ ⟨rfl, ?_⟩ | refine ⟨rfl, ?_⟩ | refine hQf _ _ ⟨by simp [Reg.fineT, Reg.intOp, Region.wanted, yielded, Reg.intFine, Reg.isInt, Act.eval], ?_⟩
     try clear hQf
     refine Reg.aI 3 [8, 9, 10, 11, 12, 13, 14, 15, 16, 17, 18, 19, 20, 21] [5] rfl fun Qf hQf => ?_
     simp only [gT, gS, gZ]
     go_wp2_with (go_at_call 22; refine Calls.ret (hsetH.out _ hb05d.out) ?_; rintro v w6 ⟨rfl, hb6⟩)
     first | refine hQf _ _ ⟨Reg.same_below (hb6) [5] rfl, ?_⟩ | refine ⟨Reg.same_below (hb6) [5] rfl, ?_⟩
     try clear hQf
     have hc6 := (hB5H.out.below ((drewB w5).trans hb6)).cell
     have hb06 := hide (hb05d.out.trans (hb6.mono hb05d.out.size))
     clear hb6
     refine Reg.wI [8, 9, 10, 11, 12, 13, 14, 15, 16, 17] [18, 19, 20, 21] rfl fun Qf hQf => ?_
     go_wp2_with fail
     first | refine hQf _ _ ⟨rfl, ?_⟩ | refine ⟨rfl, ?_⟩ | refine hQf _ _ ⟨by simp [Reg.fineT, Reg.intOp, Region.wanted, yielded, Reg.intFine, Reg.isInt, Act.eval], ?_⟩
     try clear hQf
     refine Reg.aI 18 [19, 20, 21] [] rfl fun Qf hQf => ?_
     simp only [gT, gS, gZ]
     go_wp2_with (go_at_call 25; refine Calls.ret (when_var _ _ _) ?_; rintro r w' ⟨⟨x, rfl, hx⟩, rfl⟩)
     first | refine hQf _ _ ⟨Reg.nm, ?_⟩ | refine ⟨Reg.nm, ?_⟩
     try clear hQf
     have hge := hide (show allE id [setE c.states n, x] = e8 from by
      simp only [allE, id_eq, orE_self0]
      rw [← hge8.out]
      unfold countE
      congr 1
      rw [hx.out]
      congr 1
      rw [← hemp.out, hq]
      simp
      omega
     )
     obtain ⟨wz, hwz, hbz, hBz, hkz⟩ := box_blk w6 #[.int .i64 (setE c.states n), .int .i64 (x)] 33
     have hSz := hide (errs_sl (l := [setE c.states n, x]) hBz (by simp))
     have hb0z := hide (hb06.out.trans (hbz.mono hb06.out.size))
     clear hBz hkz hbz
     refine Reg.wI [19] [20, 21] rfl fun Qf hQf => ?_
     go_wp2_with fail
     first | refine hQf _ _ ⟨rfl, ?_⟩ | refine ⟨rfl, ?_⟩ | refine hQf _ _ ⟨by simp [Reg.fineT, Reg.intOp, Region.wanted, yielded, Reg.intFine, Reg.isInt, Act.eval], ?_⟩
     try clear hQf
     refine Reg.aI 20 [21] [] rfl fun Qf hQf => ?_
     simp only [gT, gS, gZ]
     go_wp2_with (go_at_call 24; refine (first_any (l := [setE c.states n, x]) hSz.out).mono ?_; rintro e w' ⟨rfl, rfl⟩; rw [hge.out])
     first | refine hQf _ _ ⟨Reg.nm, ?_⟩ | refine ⟨Reg.nm, ?_⟩
     try clear hQf
     refine Reg.wI [21] [] rfl fun Qf hQf => ?_
     go_wp2_with fail
     first | refine hQf _ _ ⟨rfl, ?_⟩ | refine ⟨rfl, ?_⟩ | refine hQf _ _ ⟨by simp [Reg.fineT, Reg.intOp, Region.wanted, yielded, Reg.intFine, Reg.isInt, Act.eval], ?_⟩
     try clear hQf
     first | refine Reg.restI_end ?_ | skip
     go_wp2_with fail
     exact ⟨⟨k + 1, by go_num, by omega, hb0z.out, hnx.out⟩, by simp [intOf]; omega⟩
    ·have hq8 : (e8 != 0) = true := by simp [h08]
     have hst := hide (show allE (countE n) l = e8 from by rw [allE_stop (countE n) heH.out hE.out (by rw [hge8.out]; exact h08), hge8.out])
     clear h08
     go_wp2_with fail
     refine Reg.cI [0, 1, 0, 7, 0, 16, 48, 112, 255, 511, 1023, 2047, 4095, 8191, 16383, 32767, 65535, 131071, 262143, 524287, 1048575, 2097151] [0, 1, 2, 4, 5, 6, 7, 3, 8, 9, 10, 11, 12, 13, 14, 15, 16, 17, 18, 19, 20, 21] ?_
     refine Reg.wI [0, 1, 2, 4, 5, 6, 7] [3, 8, 9, 10, 11, 12, 13, 14, 15, 16, 17, 18, 19, 20, 21] rfl fun Qf hQf => ?_
     go_wp2_with fail
     first | refine hQf _ _ ⟨rfl, ?_⟩ | refine ⟨rfl, ?_⟩ | refine hQf _ _ ⟨by simp [Reg.fineT, Reg.intOp, Region.wanted, yielded, Reg.intFine, Reg.isInt, Act.eval], ?_⟩
     try clear hQf
     refine Reg.aI 3 [8, 9, 10, 11, 12, 13, 14, 15, 16, 17, 18, 19, 20, 21] [5] rfl fun Qf hQf => ?_
     simp only [gT, gS, gZ]
     go_wp2_with (go_at_call 22; refine Calls.ret (hsetH.out _ hb05d.out) ?_; rintro v w6 ⟨rfl, hb6⟩)
     first | refine hQf _ _ ⟨Reg.same_below (hb6) [5] rfl, ?_⟩ | refine ⟨Reg.same_below (hb6) [5] rfl, ?_⟩
     try clear hQf
     have hc6 := (hB5H.out.below ((drewB w5).trans hb6)).cell
     have hb06 := hide (hb05d.out.trans (hb6.mono hb05d.out.size))
     clear hb6
     refine Reg.wI [8, 9, 10, 11, 12, 13, 14, 15, 16, 17] [18, 19, 20, 21] rfl fun Qf hQf => ?_
     go_wp2_with fail
     first | refine hQf _ _ ⟨rfl, ?_⟩ | refine ⟨rfl, ?_⟩ | refine hQf _ _ ⟨by simp [Reg.fineT, Reg.intOp, Region.wanted, yielded, Reg.intFine, Reg.isInt, Act.eval], ?_⟩
     try clear hQf
     refine Reg.aI 18 [19, 20, 21] [] rfl fun Qf hQf => ?_
     simp only [gT, gS, gZ]
     go_wp2_with (go_at_call 25; refine Calls.ret (when_var _ _ _) ?_; rintro r w' ⟨⟨x, rfl, hx⟩, rfl⟩)
     first | refine hQf _ _ ⟨Reg.nm, ?_⟩ | refine ⟨Reg.nm, ?_⟩
     try clear hQf
     have hge := hide (show allE id [setE c.states n, x] = e8 from by
      simp only [allE, id_eq, orE_self0]
      rw [← hge8.out]
      unfold countE
      congr 1
      rw [hx.out]
      congr 1
      rw [← hemp.out, hq]
      simp
      omega
     )
     obtain ⟨wz, hwz, hbz, hBz, hkz⟩ := box_blk w6 #[.int .i64 (setE c.states n), .int .i64 (x)] 33
     have hSz := hide (errs_sl (l := [setE c.states n, x]) hBz (by simp))
     have hb0z := hide (hb06.out.trans (hbz.mono hb06.out.size))
     clear hBz hkz hbz
     refine Reg.wI [19] [20, 21] rfl fun Qf hQf => ?_
     go_wp2_with fail
     first | refine hQf _ _ ⟨rfl, ?_⟩ | refine ⟨rfl, ?_⟩ | refine hQf _ _ ⟨by simp [Reg.fineT, Reg.intOp, Region.wanted, yielded, Reg.intFine, Reg.isInt, Act.eval], ?_⟩
     try clear hQf
     refine Reg.aI 20 [21] [] rfl fun Qf hQf => ?_
     simp only [gT, gS, gZ]
     go_wp2_with (go_at_call 24; refine (first_any (l := [setE c.states n, x]) hSz.out).mono ?_; rintro e w' ⟨rfl, rfl⟩; rw [hge.out])
     first | refine hQf _ _ ⟨Reg.nm, ?_⟩ | refine ⟨Reg.nm, ?_⟩
     try clear hQf
     refine Reg.wI [21] [] rfl fun Qf hQf => ?_
     go_wp2_with fail
     first | refine hQf _ _ ⟨rfl, ?_⟩ | refine ⟨rfl, ?_⟩ | refine hQf _ _ ⟨by simp [Reg.fineT, Reg.intOp, Region.wanted, yielded, Reg.intFine, Reg.isInt, Act.eval], ?_⟩
     try clear hQf
     first | refine Reg.restI_end ?_ | skip
     go_wp2_with fail
     go_ret
     exact ⟨by rw [hst.out]; rfl, hb0z.out⟩
   ·have hq : ((ns : Int) == 0) = false := hcase
    clear hcase
    by_cases h08 : e8 = 0
    ·have hq8 : (e8 != 0) = false := by simp [h08]
     have hnx := hide (show allE (countE n) (l.take (k + 1)) = 0 from by rw [allE_take (countE n) heH.out hE.out, hge8.out, h08])
     clear h08
     go_wp2_with fail
     refine Reg.cI [0, 1, 0, 7, 0, 16, 48, 112, 255, 511, 1023, 2047, 4095, 8191, 16383, 32767, 65535, 131071, 262143, 524287, 1048575, 2097151] [0, 1, 2, 4, 5, 6, 7, 3, 8, 9, 10, 11, 12, 13, 14, 15, 16, 17, 18, 19, 20, 21] ?_
     refine Reg.wI [0, 1, 2, 4, 5, 6, 7] [3, 8, 9, 10, 11, 12, 13, 14, 15, 16, 17, 18, 19, 20, 21] rfl fun Qf hQf => ?_
     go_wp2_with fail
     first | refine hQf _ _ ⟨rfl, ?_⟩ | refine ⟨rfl, ?_⟩ | refine hQf _ _ ⟨by simp [Reg.fineT, Reg.intOp, Region.wanted, yielded, Reg.intFine, Reg.isInt, Act.eval], ?_⟩
     try clear hQf
     refine Reg.aI 3 [8, 9, 10, 11, 12, 13, 14, 15, 16, 17, 18, 19, 20, 21] [5] rfl fun Qf hQf => ?_
     simp only [gT, gS, gZ]
     go_wp2_with (go_at_call 22; refine Calls.ret (hsetH.out _ hb05d.out) ?_; rintro v w6 ⟨rfl, hb6⟩)
     first | refine hQf _ _ ⟨Reg.same_below (hb6) [5] rfl, ?_⟩ | refine ⟨Reg.same_below (hb6) [5] rfl, ?_⟩
     try clear hQf
     have hc6 := (hB5H.out.below ((drewB w5).trans hb6)).cell
     have hb06 := hide (hb05d.out.trans (hb6.mono hb05d.out.size))
     clear hb6
     refine Reg.wI [8, 9, 10, 11, 12, 13, 14, 15, 16, 17] [18, 19, 20, 21] rfl fun Qf hQf => ?_
     go_wp2_with fail
     first | refine hQf _ _ ⟨rfl, ?_⟩ | refine ⟨rfl, ?_⟩ | refine hQf _ _ ⟨by simp [Reg.fineT, Reg.intOp, Region.wanted, yielded, Reg.intFine, Reg.isInt, Act.eval], ?_⟩
     try clear hQf
     refine Reg.aI 18 [19, 20, 21] [] rfl fun Qf hQf => ?_
     simp only [gT, gS, gZ]
     go_wp2_with (go_at_call 25; refine Calls.ret (when_var _ _ _) ?_; rintro r w' ⟨⟨x, rfl, hx⟩, rfl⟩)
     first | refine hQf _ _ ⟨Reg.nm, ?_⟩ | refine ⟨Reg.nm, ?_⟩
     try clear hQf
     have hge := hide (show allE id [setE c.states n, x] = e8 from by
      simp only [allE, id_eq, orE_self0]
      rw [← hge8.out]
      unfold countE
      congr 1
      rw [hx.out]
      congr 1
      rw [← hemp.out, hq]
      rw [decide_eq_false (show ¬ c.least < 1 by omega), show decide (3 < c.least) = !decide (c.least ≤ 3) from by by_cases h3 : c.least ≤ 3 <;> simp [h3] <;> omega, decide_eq_true (show 1 ≤ c.least by omega)]
      simp
     )
     obtain ⟨wz, hwz, hbz, hBz, hkz⟩ := box_blk w6 #[.int .i64 (setE c.states n), .int .i64 (x)] 33
     have hSz := hide (errs_sl (l := [setE c.states n, x]) hBz (by simp))
     have hb0z := hide (hb06.out.trans (hbz.mono hb06.out.size))
     clear hBz hkz hbz
     refine Reg.wI [19] [20, 21] rfl fun Qf hQf => ?_
     go_wp2_with fail
     first | refine hQf _ _ ⟨rfl, ?_⟩ | refine ⟨rfl, ?_⟩ | refine hQf _ _ ⟨by simp [Reg.fineT, Reg.intOp, Region.wanted, yielded, Reg.intFine, Reg.isInt, Act.eval], ?_⟩
     try clear hQf
     refine Reg.aI 20 [21] [] rfl fun Qf hQf => ?_
     simp only [gT, gS, gZ]
     go_wp2_with (go_at_call 24; refine (first_any (l := [setE c.states n, x]) hSz.out).mono ?_; rintro e w' ⟨rfl, rfl⟩; rw [hge.out])
     first | refine hQf _ _ ⟨Reg.nm, ?_⟩ | refine ⟨Reg.nm, ?_⟩
     try clear hQf
     refine Reg.wI [21] [] rfl fun Qf hQf => ?_
     go_wp2_with fail
     first | refine hQf _ _ ⟨rfl, ?_⟩ | refine ⟨rfl, ?_⟩ | refine hQf _ _ ⟨by simp [Reg.fineT, Reg.intOp, Region.wanted, yielded, Reg.intFine, Reg.isInt, Act.eval], ?_⟩
     try clear hQf
     first | refine Reg.restI_end ?_ | skip
     go_wp2_with fail
     exact ⟨⟨k + 1, by go_num, by omega, hb0z.out, hnx.out⟩, by simp [intOf]; omega⟩
    ·have hq8 : (e8 != 0) = true := by simp [h08]
     have hst := hide (show allE (countE n) l = e8 from by rw [allE_stop (countE n) heH.out hE.out (by rw [hge8.out]; exact h08), hge8.out])
     clear h08
     go_wp2_with fail
     refine Reg.cI [0, 1, 0, 7, 0, 16, 48, 112, 255, 511, 1023, 2047, 4095, 8191, 16383, 32767, 65535, 131071, 262143, 524287, 1048575, 2097151] [0, 1, 2, 4, 5, 6, 7, 3, 8, 9, 10, 11, 12, 13, 14, 15, 16, 17, 18, 19, 20, 21] ?_
     refine Reg.wI [0, 1, 2, 4, 5, 6, 7] [3, 8, 9, 10, 11, 12, 13, 14, 15, 16, 17, 18, 19, 20, 21] rfl fun Qf hQf => ?_
     go_wp2_with fail
     first | refine hQf _ _ ⟨rfl, ?_⟩ | refine ⟨rfl, ?_⟩ | refine hQf _ _ ⟨by simp [Reg.fineT, Reg.intOp, Region.wanted, yielded, Reg.intFine, Reg.isInt, Act.eval], ?_⟩
     try clear hQf
     refine Reg.aI 3 [8, 9, 10, 11, 12, 13, 14, 15, 16, 17, 18, 19, 20, 21] [5] rfl fun Qf hQf => ?_
     simp only [gT, gS, gZ]
     go_wp2_with (go_at_call 22; refine Calls.ret (hsetH.out _ hb05d.out) ?_; rintro v w6 ⟨rfl, hb6⟩)
     first | refine hQf _ _ ⟨Reg.same_below (hb6) [5] rfl, ?_⟩ | refine ⟨Reg.same_below (hb6) [5] rfl, ?_⟩
     try clear hQf
     have hc6 := (hB5H.out.below ((drewB w5).trans hb6)).cell
     have hb06 := hide (hb05d.out.trans (hb6.mono hb05d.out.size))
     clear hb6
     refine Reg.wI [8, 9, 10, 11, 12, 13, 14, 15, 16, 17] [18, 19, 20, 21] rfl fun Qf hQf => ?_
     go_wp2_with fail
     first | refine hQf _ _ ⟨rfl, ?_⟩ | refine ⟨rfl, ?_⟩ | refine hQf _ _ ⟨by simp [Reg.fineT, Reg.intOp, Region.wanted, yielded, Reg.intFine, Reg.isInt, Act.eval], ?_⟩
     try clear hQf
     refine Reg.aI 18 [19, 20, 21] [] rfl fun Qf hQf => ?_
     simp only [gT, gS, gZ]
     go_wp2_with (go_at_call 25; refine Calls.ret (when_var _ _ _) ?_; rintro r w' ⟨⟨x, rfl, hx⟩, rfl⟩)
     first | refine hQf _ _ ⟨Reg.nm, ?_⟩ | refine ⟨Reg.nm, ?_⟩
     try clear hQf
     have hge := hide (show allE id [setE c.states n, x] = e8 from by
      simp only [allE, id_eq, orE_self0]
      rw [← hge8.out]
      unfold countE
      congr 1
      rw [hx.out]
      congr 1
      rw [← hemp.out, hq]
      rw [decide_eq_false (show ¬ c.least < 1 by omega), show decide (3 < c.least) = !decide (c.least ≤ 3) from by by_cases h3 : c.least ≤ 3 <;> simp [h3] <;> omega, decide_eq_true (show 1 ≤ c.least by omega)]
      simp
     )
     obtain ⟨wz, hwz, hbz, hBz, hkz⟩ := box_blk w6 #[.int .i64 (setE c.states n), .int .i64 (x)] 33
     have hSz := hide (errs_sl (l := [setE c.states n, x]) hBz (by simp))
     have hb0z := hide (hb06.out.trans (hbz.mono hb06.out.size))
     clear hBz hkz hbz
     refine Reg.wI [19] [20, 21] rfl fun Qf hQf => ?_
     go_wp2_with fail
     first | refine hQf _ _ ⟨rfl, ?_⟩ | refine ⟨rfl, ?_⟩ | refine hQf _ _ ⟨by simp [Reg.fineT, Reg.intOp, Region.wanted, yielded, Reg.intFine, Reg.isInt, Act.eval], ?_⟩
     try clear hQf
     refine Reg.aI 20 [21] [] rfl fun Qf hQf => ?_
     simp only [gT, gS, gZ]
     go_wp2_with (go_at_call 24; refine (first_any (l := [setE c.states n, x]) hSz.out).mono ?_; rintro e w' ⟨rfl, rfl⟩; rw [hge.out])
     first | refine hQf _ _ ⟨Reg.nm, ?_⟩ | refine ⟨Reg.nm, ?_⟩
     try clear hQf
     refine Reg.wI [21] [] rfl fun Qf hQf => ?_
     go_wp2_with fail
     first | refine hQf _ _ ⟨rfl, ?_⟩ | refine ⟨rfl, ?_⟩ | refine hQf _ _ ⟨by simp [Reg.fineT, Reg.intOp, Region.wanted, yielded, Reg.intFine, Reg.isInt, Act.eval], ?_⟩
     try clear hQf
     first | refine Reg.restI_end ?_ | skip
     go_wp2_with fail
     go_ret
     exact ⟨by rw [hst.out]; rfl, hb0z.out⟩
theorem adjacent_any {w : World} {cs : List Value} {p : ProtD} {A : Option Addr} {cc : Nat} {l : List Int} (h : ProtIs w w.heap.size cs p) (hl : Sl w w.heap.size 1 encI A l) :
  Calls Tryd.prog 27 #[.agg cs.toArray, .slice A l.length cc] w (Ret fun v w' => v = .int .i64 (adjE p.topo p.states.length l) ∧ Below w.heap.size w w') := by
 obtain ⟨A1, c1, A2, c2, A3, c3, A4, c4, A5, c5, A6, c6, A7, c7, hpsz, hp0, hp1, hp2, hp3, hp4, hp5, hp6, hp7, hp8, hp9, h1, h2, h3, h4, h5, h6, h7, hcap⟩ := h.cells
 have hns1 := h1.1
 have hnl := hl.1
 clear h h1 h2 h3 h4 h5 h6 h7 hcap
 generalize cs.toArray = pc at *
 obtain ⟨ns, hns⟩ : ∃ n, n = p.states.length := ⟨_, rfl⟩
 obtain ⟨kt, hkt⟩ : ∃ n, n = p.topo := ⟨_, rfl⟩
 rw [← hns] at hp2 hns1 ⊢
 rw [← hkt] at hp1 ⊢
 clear hns hkt hpsz
 obtain ⟨w1, hw1, hb1, hB1, hk1⟩ := box_blk w pc 27
 have hc1 := hB1.cell
 have hb01 := hide hb1
 have hb01d := hide (hb1.trans ((drewB w1).mono hb1.size))
 have hlH := hide (hl.keep (w' := w1) (B' := w.heap.size) (fun _ hp => hb1.cell hp) (Nat.le_refl _))
 clear hB1 hk1 hb1 hl
 by_cases h0 : l.length = 0
 ·have hz := hide (show adjE kt ns l = 0 by
   have : l = [] := List.length_eq_zero_iff.1 h0
   subst this
   simp [adjE, whenE, orE, allE])
  have hq : ((l.length : Int) == 0) = true := by simp [h0]
  generalize l.length = n at *
  clear h0
  go_enter Tryd.func27, Tryd.ntmps27
  go_wp2_with fail
  go_ret
  exact ⟨by rw [hz.out]; rfl, hb01.out⟩
 have hne : l.isEmpty = false := by rw [isEmpty_len]; exact decide_eq_false h0
 have hneH := hide hne
 clear hne
 have hq : ((l.length : Int) == 0) = false := by simp [h0]
 clear h0
 by_cases ht : kt = 1
 ·have hz := hide (show adjE kt ns l = 6 by
   unfold adjE
   rw [hneH.out, ht]
   rfl)
  have hq1 : (kt == 1) = true := by simp [ht]
  clear ht
  generalize l.length = n at *
  go_enter Tryd.func27, Tryd.ntmps27
  go_wp2_with fail
  go_ret
  exact ⟨by rw [hz.out]; rfl, hb01.out⟩
 have hq1 : (kt == 1) = false := by simp [ht]
 have htH := hide ht
 clear ht
 by_cases h2 : l.length = 2
 case neg =>
  have hz := hide (show adjE kt ns l = 1 by
   unfold adjE
   rw [hneH.out, decide_eq_false htH.out, decide_eq_false h2]
   rfl)
  have hq2 : ((l.length : Int) != 2) = true := by
   have : ((l.length : Int) == 2) = false := by
    simp
    omega
   simp [bne, this]
  clear h2
  generalize l.length = n at *
  go_enter Tryd.func27, Tryd.ntmps27
  go_wp2_with fail
  go_ret
  exact ⟨by rw [hz.out]; rfl, hb01.out⟩
 obtain ⟨a, b, rfl⟩ : ∃ a b, l = [a, b] := by
  match l, h2 with
  | [a, b], _ => exact ⟨a, b, rfl⟩
 obtain ⟨bb, off, a', hA, hbk, ha, hca⟩ := hlH.out.at (k := 0) (by simp)
 obtain ⟨bb2, off2, b', hA2, hbk2, hb, hcb⟩ := hlH.out.at (k := 1) (by simp)
 subst hA
 have e1 := Option.some.inj hA2
 injection e1 with e1 e2 _
 subst e1 e2
 obtain rfl : a = a' := by simpa using ha
 obtain rfl : b = b' := by simpa using hb
 have d0 := hca 0 (by omega)
 have d1 := hcb 0 (by omega)
 simp only [Nat.add_zero, Nat.zero_mul, Nat.one_mul, encI] at d0 d1
 have hz := hide (show adjE kt ns [a, b] = allE id [idxE a (ns : Int), idxE b (ns : Int)] by
  unfold adjE
  rw [decide_eq_false htH.out]
  simp [allE, whenE, orE, idxE])
 clear hca hcb hA2 h2 ha hb hlH hneH
 simp only [List.length_cons, List.length_nil] at hq ⊢
 go_enter Tryd.func27, Tryd.ntmps27
 go_wp2_with fail
 refine Reg.cI [0, 1, 3, 0, 8, 24, 63, 0, 128, 384, 0, 1024, 3072, 8191, 16383, 32767, 65535] [0, 1, 2, 3, 4, 5, 7, 8, 9, 10, 11, 12, 6, 13, 14, 15, 16] ?_
 refine Reg.wI [0, 1, 2, 3, 4, 5, 7, 8, 9, 10, 11, 12] [6, 13, 14, 15, 16] rfl fun Qf hQf => ?_
 go_wp2_with fail
 first | refine hQf _ _ ⟨rfl, ?_⟩ | refine ⟨rfl, ?_⟩ | refine hQf _ _ ⟨by simp [Reg.fineT, Reg.intOp, Region.wanted, yielded, Reg.intFine, Reg.isInt, Act.eval], ?_⟩
 try clear hQf
 refine Reg.aI 6 [13, 14, 15, 16] [9, 11] rfl fun Qf hQf => ?_
 simp only [gT, gS, gZ]
 go_wp2_with (go_at_call 44; refine (index_any _ _ _).mono ?_; rintro e w' ⟨rfl, rfl⟩)
 first | refine hQf _ _ ⟨Reg.same_below (Below.refl _ _) [9, 11] rfl, ?_⟩ | refine ⟨Reg.same_below (Below.refl _ _) [9, 11] rfl, ?_⟩
 try clear hQf
 refine Reg.aI 13 [14, 15, 16] [] rfl fun Qf hQf => ?_
 simp only [gT, gS, gZ]
 go_wp2_with (go_at_call 44; refine (index_any _ _ _).mono ?_; rintro e w' ⟨rfl, rfl⟩)
 first | refine hQf _ _ ⟨Reg.nm, ?_⟩ | refine ⟨Reg.nm, ?_⟩
 try clear hQf
 obtain ⟨wz, hwz, hbz, hBz, hkz⟩ := box_blk w1.drew #[.int .i64 (idxE a (ns : Int)), .int .i64 (idxE b (ns : Int))] 33
 have hSz := hide (errs_sl (l := [idxE a (ns : Int), idxE b (ns : Int)]) hBz (by simp))
 have hb0z := hide (hb01d.out.trans (hbz.mono hb01d.out.size))
 clear hBz hkz hbz
 refine Reg.wI [14] [15, 16] rfl fun Qf hQf => ?_
 go_wp2_with fail
 first | refine hQf _ _ ⟨rfl, ?_⟩ | refine ⟨rfl, ?_⟩ | refine hQf _ _ ⟨by simp [Reg.fineT, Reg.intOp, Region.wanted, yielded, Reg.intFine, Reg.isInt, Act.eval], ?_⟩
 try clear hQf
 refine Reg.aI 15 [16] [] rfl fun Qf hQf => ?_
 simp only [gT, gS, gZ]
 go_wp2_with (go_at_call 24; refine (first_any (l := [idxE a (ns : Int), idxE b (ns : Int)]) hSz.out).mono ?_; rintro e w' ⟨rfl, rfl⟩)
 first | refine hQf _ _ ⟨Reg.nm, ?_⟩ | refine ⟨Reg.nm, ?_⟩
 try clear hQf
 refine Reg.wI [16] [] rfl fun Qf hQf => ?_
 go_wp2_with fail
 first | refine hQf _ _ ⟨rfl, ?_⟩ | refine ⟨rfl, ?_⟩ | refine hQf _ _ ⟨by simp [Reg.fineT, Reg.intOp, Region.wanted, yielded, Reg.intFine, Reg.isInt, Act.eval], ?_⟩
 try clear hQf
 first | refine Reg.restI_end ?_ | skip
 go_wp2_with fail
 go_ret
 exact ⟨by rw [hz.out]; rfl, hb0z.out⟩
end Go.Proofs.YtbjdgepfhhafjaaDoor
namespace Go.Proofs.YtbjdgepfhhafjaaDoor
open Go.RowKit
attribute [-go_sem] loadCellsFrom storeCells
structure PQX (w : World) (g2 g3 : Nat) (pc qc : Array Value) (p : ProtD) (q : PropD) : Prop where
 pr : ProtIs w w.heap.size pc.toList p
 qr : PropIs w w.heap.size qc.toList q
 b2 : Blk w g2 27 pc
 b3 : Blk w g3 30 qc
 tab : SpOK w
theorem PQX.at {w w' : World} {g2 g3 : Nat} {pc qc : Array Value} {p : ProtD} {q : PropD} (h : PQX w g2 g3 pc qc p q) (hb : Below w.heap.size w w') : PQX w' g2 g3 pc qc p q :=
 ⟨h.pr.keep (fun _ hp => hb.cell hp) hb.size, h.qr.keep (fun _ hp => hb.cell hp) hb.size, h.b2.below hb, h.b3.below hb, h.tab.below hb⟩
theorem PropIs.cells {w : World} {B : Nat} {cs : List Value} {q : PropD} (h : PropIs w B cs q) : ∃ A1 c1 A2 c2 A3 c3 A4 c4,
  cs.toArray.size = 6 ∧ cs.toArray[0]? = some (.string q.name) ∧ cs.toArray[1]? = some (.int .i64 q.kind) ∧ cs.toArray[2]? = some (.slice A1 q.start.length c1) ∧ cs.toArray[3]? = some (.slice A2 q.bad.length c2) ∧ cs.toArray[4]? = some (.slice A3 q.adj.length c3) ∧ cs.toArray[5]? = some (.slice A4 q.goal.length c4) ∧
  Sl w B 1 encI A1 q.start ∧ RowsOf w B 2 (CountIs w B) A2 q.bad ∧ Sl w B 1 encI A3 q.adj ∧ Sl w B 1 encI A4 q.goal := by
 obtain ⟨A1, c1, A2, c2, A3, c3, A4, c4, rfl, h1, h2, h3, h4⟩ := h
 exact ⟨A1, c1, A2, c2, A3, c3, A4, c4, rfl, rfl, rfl, rfl, rfl, rfl, rfl, h1, h2, h3, h4⟩
structure PropD.Small (q : PropD) : Prop where
 name : q.name.size ≤ 500
 start : q.start.length ≤ 60
 bad : q.bad.length ≤ 60
 adj : q.adj.length ≤ 60
 goal : q.goal.length ≤ 60
 counts : ∀ c ∈ q.bad, c.states.length ≤ 60
def inAll (p : ProtD) (q : PropD) : Bool := q.start.all fun x => decide (x ∈ p.initial)
section
variable {p : ProtD} {q : PropD}
theorem qe_prot (h : protE nameOK p ≠ 0) : propE nameOK p q = protE nameOK p := orE_ne h
theorem qe_name (h : protE nameOK p = 0) (h1 : nameOK q.name = false) : propE nameOK p q = 2 := by
 unfold propE
 rw [h, h1]
 rfl
theorem qe_kind (h : protE nameOK p = 0) (h1 : nameOK q.name = true) (h2 : q.kind ≠ 1) (h3 : q.kind ≠ 2) : propE nameOK p q = 1 := by
 unfold propE
 rw [h, h1, decide_eq_false h2, decide_eq_false h3]
 rfl
theorem qe_goal (h : protE nameOK p = 0) (h1 : nameOK q.name = true) (h2 : q.kind = 1) (h3 : q.goal.length ≠ 0) : propE nameOK p q = 1 := by
 unfold propE
 rw [h, h1, h2, isEmpty_len q.goal, decide_eq_false h3]
 rfl
theorem qe_bad (h : protE nameOK p = 0) (h1 : nameOK q.name = true) (h2 : q.kind = 2) (h3 : q.bad.length ≠ 0 ∨ q.adj.length ≠ 0) : propE nameOK p q = 1 := by
 unfold propE
 rw [h, h1, h2, isEmpty_len q.bad, isEmpty_len q.adj]
 rcases h3 with h3 | h3
 ·rw [decide_eq_false h3]
  rfl
 ·rw [decide_eq_false h3]
  cases decide (q.bad.length = 0) <;> rfl
def tail1 (p : ProtD) (q : PropD) : Int :=
 orE (whenE (q.bad.isEmpty && q.adj.isEmpty) 1) (orE (whenE (decide (3 < q.bad.length)) 4) (orE (allE (countE p.states.length) q.bad) (adjE p.topo p.states.length q.adj)))
def tail2 (p : ProtD) (q : PropD) : Int := orE (setE q.goal p.states.length) (whenE q.goal.isEmpty 1)
theorem qe_1 (h : protE nameOK p = 0) (h1 : nameOK q.name = true) (h2 : q.kind = 1) (h3 : q.goal.length = 0) : propE nameOK p q = orE (setE q.start p.states.length) (orE (whenE (!inAll p q) 5) (tail1 p q)) := by
 unfold propE
 rw [h, h1, h2, isEmpty_len q.goal, decide_eq_true h3]
 rfl
theorem qe_2 (h : protE nameOK p = 0) (h1 : nameOK q.name = true) (h2 : q.kind = 2) (h3 : q.bad.length = 0) (h4 : q.adj.length = 0) : propE nameOK p q = orE (setE q.start p.states.length) (orE (whenE (!inAll p q) 5) (tail2 p q)) := by
 unfold propE
 rw [h, h1, h2, isEmpty_len q.bad, isEmpty_len q.adj, decide_eq_true h3, decide_eq_true h4]
 rfl
end
end Go.Proofs.YtbjdgepfhhafjaaDoor
