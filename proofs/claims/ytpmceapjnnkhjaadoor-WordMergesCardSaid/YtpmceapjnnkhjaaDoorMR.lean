/-
  Part MR of a proof.
-/
import Derived.Test.YtpmceapjnnkhjaaDoorPA
import Derived.Test.YtpmceapjnnkhjaaDoorMQ
import Derived.Test.YtpmceapjnnkhjaaDoorMO
import Derived.Test.YtpmceapjnnkhjaaDoorMC
set_option maxHeartbeats 16000000
set_option maxRecDepth 100000
set_option linter.unusedVariables false
set_option linter.unusedSimpArgs false
namespace Go.Proofs.YtpmceapjnnkhjaaDoor
open Go.RowKit
set_option maxHeartbeats 16000000
set_option maxRecDepth 100000
theorem RefMinRet.split {w w' : World} {a : WA} {r : Value} (h : RefMinRet w a r w') : Below w.heap.size w w' ∧ ∃ (mm : WA) (e : Int) (d : Value), r = .tuple #[d, .int .i64 e] ∧ IsWA w' w'.heap.size d mm ∧
  ((e = 4 ∧ a.nf.Large 400) ∨ (e = 0 ∧ ¬ a.nf.Large 400 ∧ ∃ t ac, CanT a.L t ac a.lang ∧ ac.length ≤ 400 ∧ mm = plainW a.L t ac)) := by
 obtain ⟨hb, ⟨h2, rfl⟩ | ⟨h2, t, ac, d, hC, hac, rfl, hI⟩⟩ := h
 ·exact ⟨hb, zeroA, 4, _, rfl, zeroA_is _, .inl ⟨rfl, h2⟩⟩
 ·exact ⟨hb, plainW a.L t ac, 0, d, rfl, hI w' (Kept.refl _ _), .inr ⟨rfl, h2, t, ac, hC, hac, rfl⟩⟩
theorem inC_08 {d : Int} : inC d 0 8 = true ↔ 0 ≤ d ∧ d ≤ 8 := by simp [inC]
theorem mrg_of {L : Nat} {t : List (List Nat)} {ac : List Bool} {cl : List Nat} {d : Int} (hd : 0 ≤ d) (h : ClsR L ac.length (dnx t) (dac ac) d cl) : MgOf L t ac d.toNat (mrgA L t ac cl).nf := by
 refine ⟨fun i => cl.getD i 0, fun i j hi hj => ?_, mrgA_mg h.le⟩
 have := h.iff i j hi hj
 unfold EqD at this
 rwa [if_neg (by omega)] at this
theorem refMerge_any {v : Value} {a : WA} {w : World} {d : Int} (h : IsWA w w.heap.size v a) :
  Calls Tryd.prog 42 #[v, .int .i64 d] w (Ret fun r w' => MgRet w a d r w') := by
 have hWA := hide h
 obtain ⟨A1, c1, A2, c2, A3, c3, rfl, -⟩ := h
 obtain ⟨w1, hw1, hb1, hB1, hk1⟩ := box_blk w #[.int .i64 a.letters, .int .i64 a.states, .slice A1 a.start.length c1, .slice A2 a.accept.length c2, .slice A3 a.edges.length c3] 25
 obtain ⟨w2, hw2, hb2, hB2, hk2⟩ := box_blk w1 zero25 25
 have hs1 := hb1.size
 have b02 := hide (hb1.trans (hb2.mono hs1))
 have hs2 := b02.out.size
 have hBx := hide (hB1.below hb2)
 have hR := hide hB2
 have hc2 := hBx.out.cell
 have hl1 := hB1.lt
 have hval := refValidate_any (hWA.out.keep (w' := w2) (fun p hp => b02.out.cell hp) hs2)
 clear hb1 hB1 hk1 hb2 hB2 hk2
 cases hok : a.ok
 ·rw [hok, show errno false = 1 from rfl] at hval
  have hokH := hide hok
  clear hok
  go_enter Tryd.func42, Tryd.ntmps42
  go_wp2_with fail
  refine Calls.ret hval ?_
  rintro r w3 ⟨rfl, hb3⟩
  have hR3 := hR.out.below hb3
  have hf3 := hR3.frozen
  have hl3 := hR3.lt
  have hc3 := hR3.cell
  obtain ⟨wF, hwF, hBF, hKF⟩ := set5_facts hR3 (.int .i64 0) (.int .i64 0) sn0 sn0 sn0
  have hBFc := hBF.cell
  have hb03 := b02.out.trans (hb3.mono hs2)
  have hbF := hide (hb03.trans (hKF.below hb03.size fun b hb e => by omega))
  unfold set5 at hwF
  clear hval hb3 hR3 hBF hKF hb03 hc2
  go_wp2_with fail
  refine bodyPost_ret (v := .tuple #[.agg zero25, .int .i64 1]) (by simp [results, Tryd.results42, go_sem, hBFc]) rfl ⟨hbF.out, .inl ⟨.inl hokH.out, rfl⟩⟩
 ·rw [hok, show errno true = 0 from rfl] at hval
  have hin := (WA.ok_iff.1 hok).2
  have hbd := (WA.ok_iff.1 hok).1
  have hL1 : 1 ≤ a.L := by unfold WA.L; omega
  have hL8 : a.L ≤ 8 := by unfold WA.L; omega
  have hLH := hide (And.intro hL1 hL8)
  have hcan := hide (fun (wx : World) (hb : Below w.heap.size w wx) => refminimal_any (hWA.out.keep (w' := wx) (fun p hp => hb.cell hp) hb.size) hin ⟨by omega, by omega⟩ ⟨by omega, by omega⟩)
  have hokH := hide hok
  obtain ⟨b, hb⟩ : ∃ b, inC d 0 8 = b := ⟨_, rfl⟩
  have hbH := hide hb
  clear hok hin hbd hb hL1 hL8
  cases b
  ·go_enter Tryd.func42, Tryd.ntmps42
   go_wp2_with fail
   refine Calls.ret hval ?_
   rintro r w3 ⟨rfl, hb3⟩
   have hR3 := hR.out.below hb3
   have hf3 := hR3.frozen
   have hl3 := hR3.lt
   have hc3 := hR3.cell
   obtain ⟨wF, hwF, hBF, hKF⟩ := set5_facts hR3 (.int .i64 0) (.int .i64 0) sn0 sn0 sn0
   have hBFc := hBF.cell
   have hb03 := b02.out.trans (hb3.mono hs2)
   have hbF := hide (hb03.trans (hKF.below hb03.size fun b hb e => by omega))
   have hdd : Hid (d < 0 ∨ 8 < d) := by
    show _ ∨ _
    have h1 := hbH.out
    have h2 : ¬ (0 ≤ d ∧ d ≤ 8) := fun hh => by rw [inC_08.2 hh] at h1; cases h1
    omega
   unfold set5 at hwF
   clear hval hb3 hR3 hBF hKF hb03 hc2
   go_wp2_with (go_at_call 49; refine (within_any _ _ _ _).mono ?_; rintro e w' ⟨rfl, rfl⟩; rw [hbH.out])
   refine bodyPost_ret (v := .tuple #[.agg zero25, .int .i64 1]) (by simp [results, Tryd.results42, go_sem, hBFc]) rfl ⟨hbF.out, .inl ⟨.inr hdd.out, rfl⟩⟩
  ·have hdH := hide (inC_08.1 hbH.out)
   go_enter Tryd.func42, Tryd.ntmps42
   go_wp2_with fail
   refine Calls.ret hval ?_
   rintro r w3 ⟨rfl, hb3⟩
   have b03 := hide (b02.out.trans (hb3.mono hs2))
   have hBx3 := hide (hBx.out.below hb3)
   have hR3 := hide (hR.out.below hb3)
   have hc3 := hBx3.out.cell
   have hcall := hcan.out w3 b03.out
   clear hval hb3 hc2
   go_wp2_with (go_at_call 49; refine (within_any _ _ _ _).mono ?_; rintro e w' ⟨rfl, rfl⟩; rw [hbH.out])
   refine Calls.ret hcall ?_
   intro r w4 hret
   obtain ⟨hb4, mm, e, dv, rfl, hI4, hcase⟩ := hret.split
   have hbo := lay_box hI4
   obtain ⟨E1, h1, E2, h2, E3, h3, w5, rfl, hw5, hb5, hB5, hI5⟩ := hbo
   have b35 := hb4.trans (hb5.mono hb4.size)
   have b05 := hide (b03.out.trans (b35.mono b03.out.size))
   have hR5 := hide (hR3.out.below b35)
   have hI5H := hide hI5
   have hcm := hB5.cell
   have hl3 := hR3.out.lt
   clear hcall hret hb4 hI4 hb5 hB5 hI5 b35 hc3
   rcases hcase with ⟨rfl, hLg⟩ | ⟨rfl, hnl, t, ac, hC, hac, hm⟩
   ·have hLgH := hide hLg
    have hf5 := hR5.out.frozen
    have hl5 := hR5.out.lt
    have hc5 := hR5.out.cell
    obtain ⟨wF, hwF, hBF, hKF⟩ := set5_facts hR5.out (.int .i64 0) (.int .i64 0) sn0 sn0 sn0
    have hBFc := hBF.cell
    have hbF := hide (b05.out.trans (hKF.below b05.out.size fun b hb e => by omega))
    unfold set5 at hwF
    clear hBF hKF hLg
    go_wp2_with fail
    refine bodyPost_ret (v := .tuple #[.agg zero25, .int .i64 4]) (by simp [results, Tryd.results42, go_sem, hBFc]) rfl ⟨hbF.out, .inr (.inl ⟨hokH.out, hdH.out, hLgH.out, rfl⟩)⟩
   ·have hcall := refmerged_any (d := d) (w := w5) (v := .agg #[.int .i64 mm.letters, .int .i64 mm.states, .slice E1 mm.start.length h1, .slice E2 mm.accept.length h2, .slice E3 mm.edges.length h3]) (L := a.L) (t := t) (ac := ac) (by rw [← hm]; exact hI5H.out) hC.ok (by omega) hLH.out.1 hLH.out.2
    have hnlH := hide hnl
    have hCH := hide hC
    have hacH := hide hac
    clear hnl hC hac hm
    go_wp2_with fail
    refine Calls.ret hcall ?_
    rintro r w6 ⟨hb6, cl, hRc, hI6⟩
    have b06 := hide (b05.out.trans (hb6.mono b05.out.size))
    have hR6 := hide (hR5.out.below hb6)
    have hMg := hide (mrg_of hdH.out.1 hRc)
    have hcall2 := refminimal_any hI6 (mrgA_in hCH.out.ok hRc.le) ⟨by show (0 : Int) ≤ (ac.length : Int) + 1; omega, by show (ac.length : Int) + 1 ≤ 200000; have := hacH.out; omega⟩ ⟨by show (0 : Int) ≤ (a.L : Int); omega, by show (a.L : Int) ≤ 8; have := hLH.out; omega⟩
    clear hcall hb6 hRc hI6 hcm
    go_wp2_with fail
    refine Calls.ret hcall2 ?_
    rintro r w7 ⟨hb7, hret⟩
    have b07 := hide (b06.out.trans (hb7.mono b06.out.size))
    have hR7 := hR6.out.below hb7
    have hf7 := hR7.frozen
    have hl7 := hR7.lt
    have hc7 := hR7.cell
    have hs67 := hb7.size
    have hs06 := b06.out.size
    have hl6 := hR6.out.lt
    clear hcall2
    rcases hret with ⟨hLg, rfl⟩ | ⟨hnl, t', ac', d', hC', hac', rfl, hI⟩
    ·obtain ⟨wF, hwF, hBF, hKF⟩ := set5_facts hR7 (.int .i64 0) (.int .i64 0) sn0 sn0 sn0
     have hBFc := hBF.cell
     have hbF := hide (b07.out.trans (hKF.below b07.out.size fun b hb e => by omega))
     have hLgH := hide hLg
     unfold set5 at hwF
     clear hBF hKF hLg hR7 hb7
     go_wp2_with fail
     refine bodyPost_ret (v := .tuple #[.agg zero25, .int .i64 4]) (by simp [results, Tryd.results42, go_sem, hBFc]) rfl ⟨hbF.out, .inr (.inr ⟨hokH.out, hdH.out, hnlH.out, t, ac, _, hCH.out, hacH.out, hMg.out, .inl ⟨hLgH.out, rfl⟩⟩)⟩
    ·rw [mrgA_L] at hC' hI
     obtain ⟨A1', c1', A2', c2', A3', c3', rfl, -, -, -, -⟩ := hI w7 (Kept.refl _ _)
     generalize (plainW a.L t' ac').letters = x0 at hI ⊢
     generalize (plainW a.L t' ac').states = x1 at hI ⊢
     generalize (plainW a.L t' ac').start.length = n1 at hI ⊢
     generalize (plainW a.L t' ac').accept.length = n2 at hI ⊢
     generalize (plainW a.L t' ac').edges.length = n3 at hI ⊢
     obtain ⟨wF, hwF, hBF, hKF⟩ := set5_facts hR7 (.int .i64 x0) (.int .i64 x1) (.slice A1' n1 c1') (.slice A2' n2 c2') (.slice A3' n3 c3')
     have hBFc := hBF.cell
     have hbF := hide (b07.out.trans (hKF.below b07.out.size fun b hb e => by omega))
     have hfin := hide (fun w'' (hk : Kept wF w'' (fun k => k < w.heap.size)) => hI w'' ((hKF.mono (fun b _ e => by omega)).trans hk (fun b _ e => by omega)))
     have hCH' := hide hC'
     have hacH' := hide hac'
     have hnlH' := hide hnl
     unfold set5 at hwF
     clear hI hR7 hBF hKF hb7 hC' hac' hnl
     go_wp2_with fail
     refine bodyPost_ret (v := .tuple #[.agg #[.int .i64 x0, .int .i64 x1, .slice A1' n1 c1', .slice A2' n2 c2', .slice A3' n3 c3'], .int .i64 0]) (by simp [results, Tryd.results42, go_sem, hBFc]) rfl ⟨hbF.out, .inr (.inr ⟨hokH.out, hdH.out, hnlH.out, t, ac, _, hCH.out, hacH.out, hMg.out, .inr ⟨hnlH'.out, t', ac', _, hCH'.out, hacH'.out, rfl, hfin.out⟩⟩)⟩
end Go.Proofs.YtpmceapjnnkhjaaDoor
namespace Go.Proofs.YtpmceapjnnkhjaaDoor
open Go.RowKit
set_option maxHeartbeats 16000000
set_option maxRecDepth 100000
theorem MgOf.both {L d : Nat} {t : List (List Nat)} {ac : List Bool} {m m' : NF} {Λ : List Nat → Bool} (hC : CanT L t ac Λ) (h : MgOf L t ac d m) (h' : MgOf L t ac d m') : (m.Large 400 ↔ m'.Large 400) ∧ ∀ w, okW L w → m.lang w = m'.lang w := by
 obtain ⟨f, hf, hm⟩ := h
 obtain ⟨g, hg, hm'⟩ := h'
 have hfg : ∀ i j, i < ac.length → j < ac.length → (f i = f j ↔ g i = g j) := fun i j hi hj => (hf i j hi hj).trans (hg i j hi hj).symm
 exact ⟨hm.large hm' (fun q x hq hx => hC.ok.lt hq hx) hC.ok.pos hfg, fun w hw => hm.same hm' (fun q x hq hx => hC.ok.lt hq hx) hC.ok.pos hfg hw⟩
theorem MgRet.get {w w' : World} {a : WA} {d : Int} {r : Value} (h : MgRet w a d r w') : Below w.heap.size w w' ∧ ∃ (mm : WA) (e : Int) (dv : Value), r = .tuple #[dv, .int .i64 e] ∧ IsWA w' w'.heap.size dv mm ∧
  (∀ (w2 w2' : World) (r2 : Value), MgRet w2 a d r2 w2' → Below w2.heap.size w2 w2' ∧ ∃ d2, r2 = .tuple #[d2, .int .i64 e] ∧ IsWA w2' w2'.heap.size d2 mm) := by
 obtain ⟨hb, ⟨h1, rfl⟩ | ⟨h1, h2, h3, rfl⟩ | ⟨h1, h2, h3, t, ac, m, hC, hac, hM, hm⟩⟩ := h
 ·refine ⟨hb, zeroA, 1, _, rfl, zeroA_is _, fun w2 w2' r2 h' => ?_⟩
  obtain ⟨hb', ⟨-, rfl⟩ | ⟨g1, g2, -⟩ | ⟨g1, g2, -⟩⟩ := h'
  ·exact ⟨hb', _, rfl, zeroA_is _⟩
  all_goals
   rcases h1 with h1 | h1
   ·rw [h1] at g1; cases g1
   ·omega
 ·refine ⟨hb, zeroA, 4, _, rfl, zeroA_is _, fun w2 w2' r2 h' => ?_⟩
  obtain ⟨hb', ⟨g1, -⟩ | ⟨-, -, -, rfl⟩ | ⟨-, -, g1, -⟩⟩ := h'
  ·rcases g1 with g1 | g1
   ·rw [h1] at g1; cases g1
   ·omega
  ·exact ⟨hb', _, rfl, zeroA_is _⟩
  ·exact (g1 h3).elim
 ·rcases hm with ⟨hl, rfl⟩ | ⟨hl, t', ac', dv, hC', hac', rfl, hI⟩
  ·refine ⟨hb, zeroA, 4, _, rfl, zeroA_is _, fun w2 w2' r2 h' => ?_⟩
   obtain ⟨hb', ⟨g1, -⟩ | ⟨-, -, -, rfl⟩ | ⟨-, -, -, u, bc, m2, hD, hbc, hM2, hm2⟩⟩ := h'
   ·rcases g1 with g1 | g1
    ·rw [h1] at g1; cases g1
    ·omega
   ·exact ⟨hb', _, rfl, zeroA_is _⟩
   ·obtain ⟨rfl, rfl⟩ := hD.unique hC fun _ _ => rfl
    rcases hm2 with ⟨-, rfl⟩ | ⟨g1, -⟩
    ·exact ⟨hb', _, rfl, zeroA_is _⟩
    ·exact (g1 ((hM.both hC hM2).1.1 hl)).elim
  ·refine ⟨hb, plainW a.L t' ac', 0, dv, rfl, hI w' (Kept.refl _ _), fun w2 w2' r2 h' => ?_⟩
   obtain ⟨hb', ⟨g1, -⟩ | ⟨-, -, g1, -⟩ | ⟨-, -, -, u, bc, m2, hD, hbc, hM2, hm2⟩⟩ := h'
   ·rcases g1 with g1 | g1
    ·rw [h1] at g1; cases g1
    ·omega
   ·exact (h3 g1).elim
   ·obtain ⟨rfl, rfl⟩ := hD.unique hC fun _ _ => rfl
    have hboth := MgOf.both hC hM hM2
    rcases hm2 with ⟨g1, -⟩ | ⟨-, u', bc', d2, hD', -, rfl, hI'⟩
    ·exact (hl (hboth.1.2 g1)).elim
    ·obtain ⟨rfl, rfl⟩ := hD'.unique hC' fun z hz => (hboth.2 z hz).symm
     exact ⟨hb', d2, rfl, hI' w2' (Kept.refl _ _)⟩
theorem lawMerges {vA : Value} {a : WA} {w : World} {z : Int} (hA : IsWA w w.heap.size vA a) (hT : PowT w) :
  Calls Tryd.prog 12 #[vA, .int .i64 z] w (Ret fun v w' => v = .bool true ∧ Below w.heap.size w w') := by
 have hAH := hide hA
 obtain ⟨A1, c1, A2, c2, A3, c3, rfl, -⟩ := hA
 obtain ⟨w1, hw1, hb1, hB1, hk1⟩ := box_blk w #[.int .i64 a.letters, .int .i64 a.states, .slice A1 a.start.length c1, .slice A2 a.accept.length c2, .slice A3 a.edges.length c3] 25
 have b01 := hide hb1
 have hBa1 := hide hB1
 have hTH := hide hT
 have f1 := hBa1.out.cell
 have hbig := Big_any (hAH.out.keep (w' := w1) (fun p hp => b01.out.cell hp) b01.out.size)
 clear hk1 hb1 hB1 hT
 go_enter Tryd.func12, Tryd.ntmps12
 go_wp2_with fail
 refine Calls.ret hbig ?_
 rintro r w3 ⟨rfl, hb3⟩
 have b03 := hide (b01.out.trans (hb3.mono b01.out.size))
 have hBa3 := hide (hBa1.out.below (hb3.mono (Nat.le_refl _)))
 have f3 := hBa3.out.cell
 clear hbig hb3 f1
 cases hbg : a.big with
 | true =>
  have hkn := known_any (hTH.out.below b03.out)
  go_wp2_with fail
  refine Calls.ret hkn ?_
  rintro r wk ⟨rfl, hbk⟩
  have hbK := hide (b03.out.trans (hbk.mono b03.out.size))
  clear hkn hbk
  go_wp2_with fail
  go_ret
  exact ⟨rfl, hbK.out⟩
 | false =>
  obtain ⟨g1, g2, g3⟩ := WA.big_not hbg
  have hcall := Merge_any (d := z) (hAH.out.keep (w' := w3) (fun p hp => b03.out.cell hp) b03.out.size) (by omega) (by omega) (hTH.out.below b03.out)
  clear hbg g1 g2 g3
  go_wp2_with fail
  refine Calls.ret hcall ?_
  intro r w4 hret
  obtain ⟨hb4, mm, e, d, rfl, hI4, hoth⟩ := hret.get
  have hothH := hide hoth
  have hbo := lay_box hI4
  obtain ⟨E1, h1, E2, h2, E3, h3, w5, rfl, hw5, hb5, hB5, hI5⟩ := hbo
  have b35 := hb4.trans (hb5.mono hb4.size)
  have b05 := hide (b03.out.trans (b35.mono b03.out.size))
  have hBa5 := hide (hBa3.out.below (b35.mono (Nat.le_refl _)))
  have hBm5 := hide hB5
  have hIm5 := hide hI5
  have f5 := hBa5.out.cell
  have hcall2 := refMerge_any (d := z) (hAH.out.keep (w' := w5) (fun p hp => b05.out.cell hp) b05.out.size)
  clear hcall hret hb4 hI4 hoth hb5 hB5 hI5 b35 f3
  go_wp2_with fail
  refine Calls.ret hcall2 ?_
  intro r w6 hret
  obtain ⟨hb6, d2, rfl, hI6⟩ := hothH.out w5 w6 r hret
  have hbo := lay_box hI6
  obtain ⟨G1, g1, G2, g2, G3, g3, w7, rfl, hw7, hb7, hB7, hI7⟩ := hbo
  have b57 := hb6.trans (hb7.mono hb6.size)
  have b07 := hide (b05.out.trans (b57.mono b05.out.size))
  have hIm7 := hide (hIm5.out.keep (w' := w7) (fun p hp => b57.cell hp) b57.size)
  have f7 := (hBm5.out.below (b57.mono (Nat.le_refl _))).cell
  have f8 := hB7.cell
  have hsa := sameAutomaton_any hIm7.out hI7
  rw [decide_eq_true (rfl : mm = mm)] at hsa
  have hee : (e == e) = true := by simp
  clear hcall2 hret hb6 hI6 hb7 hB7 hI7 b57 f5
  go_wp2_with fail
  refine Calls.ret hsa ?_
  rintro r w8 ⟨rfl, hb8⟩
  have b08 := hide (b07.out.trans (hb8.mono b07.out.size))
  have hkn := known_any (hTH.out.below b08.out)
  clear hsa hb8 f7 f8
  go_wp2_with fail
  refine Calls.ret hkn ?_
  rintro r wk ⟨rfl, hbk⟩
  have hbK := hide (b08.out.trans (hbk.mono b08.out.size))
  clear hkn hbk
  go_wp2_with fail
  go_ret
  exact ⟨rfl, hbK.out⟩
end Go.Proofs.YtpmceapjnnkhjaaDoor
