/-
  Part MV of a proof.
-/
import Derived.Test.YtpmceapjnnkhjaaDoorPA
import Derived.Test.YtpmceapjnnkhjaaDoorMU
import Derived.Test.YtpmceapjnnkhjaaDoorME
import Derived.Test.YtpmceapjnnkhjaaDoorPJ
set_option maxHeartbeats 16000000
set_option maxRecDepth 100000
set_option linter.unusedVariables false
set_option linter.unusedSimpArgs false
namespace Go.Proofs.YtpmceapjnnkhjaaDoor
open Go.RowKit
set_option maxHeartbeats 16000000
set_option maxRecDepth 100000
theorem pErr_fun {a b : WA} {e e' : Int} (h : pErr a b e) (h' : pErr a b e') : e = e' := by
 rcases h with ⟨h1, rfl⟩ | ⟨h1, h2, rfl⟩ | ⟨h1, h2, h3, rfl⟩ <;> rcases h' with ⟨g1, rfl⟩ | ⟨g1, g2, rfl⟩ | ⟨g1, g2, g3, rfl⟩ <;> first | rfl | exact absurd (h1.symm.trans g1) (by decide) | (rcases h2 with h2 | h2 <;> first | exact (g2 h2).elim | exact (g3 h2).elim) | (rcases g2 with g2 | g2 <;> first | exact (h2 g2).elim | exact (h3 g2).elim)
theorem both_comm {a b : WA} (h : a.both b = true) : b.both a = true := by
 obtain ⟨h1, h2, h3⟩ := WA.both_iff.1 h
 exact WA.both_iff.2 ⟨h2, h1, h3.symm⟩
theorem pErr_zero {a b : WA} (h : pErr a b 0) : a.both b = true ∧ ¬ a.nf.Large 400 ∧ ¬ b.nf.Large 400 := by
 rcases h with ⟨h1, h⟩ | ⟨h1, h2, h⟩ | ⟨h1, h2, h3, -⟩
 ·omega
 ·omega
 ·exact ⟨h1, h2, h3⟩
theorem pErr_back {a b : WA} {e : Int} (h : pErr a b 0) (h' : pErr b a e) : e = 0 := by
 obtain ⟨h1, h2, h3⟩ := pErr_zero h
 exact pErr_fun h' (.inr (.inr ⟨both_comm h1, h3, h2, rfl⟩))
theorem MinRet.good {w w' : World} {a : WA} {r : Value} (h : MinRet w a r w') (hok : a.ok = true) (hnl : ¬ a.nf.Large 400) : Below w.heap.size w w' ∧ ∃ t ac d, CanT a.L t ac a.lang ∧ ac.length ≤ 400 ∧ r = .tuple #[d, .int .i64 0] ∧ IsWA w' w'.heap.size d (plainW a.L t ac) := by
 obtain ⟨hb, ⟨h1, -⟩ | ⟨-, h1, -⟩ | ⟨-, -, t, ac, d, hC, hac, hr, hI⟩⟩ := h
 ·rw [hok] at h1; cases h1
 ·exact (hnl h1).elim
 ·exact ⟨hb, t, ac, d, hC, hac, hr, hI w' (Kept.refl _ _)⟩
theorem plain_eq {L : Nat} {t u : List (List Nat)} {ac bc : List Bool} {Λ Λ' : List Nat → Bool} (hC : CanT L t ac Λ) (hD : CanT L u bc Λ') : plainW L t ac = plainW L u bc ↔ ∀ z, okW L z → Λ z = Λ' z := by
 constructor
 ·intro h z hz
  rw [← can_plain hC hz, ← can_plain hD hz, h]
 ·intro h
  obtain ⟨rfl, rfl⟩ := hC.unique hD h
  rfl
theorem bool_and {x1 x2 x3 : Bool} {P1 P2 P3 : Prop} (h1 : x1 = true ↔ P1) (h2 : x2 = true ↔ P2) (h3 : x3 = true ↔ P3) (h : P3 ↔ P1 ∧ P2) : x3 = (x1 && x2) := by
 rw [Bool.eq_iff_iff, Bool.and_eq_true, h1, h2, h3, h]
theorem lawIncludedMeans {vA vB : Value} {a b : WA} {w : World} {A : Option Addr} {c : Nat} {l : List Int} (hA : IsWA w w.heap.size vA a) (hB : IsWA w w.heap.size vB b) (hl : Sl w w.heap.size 1 encI A l) (hT : PowT w) :
    Calls Tryd.prog 17 #[vA, vB, .slice A l.length c] w (Ret fun v w' => v = .bool true ∧ Below w.heap.size w w') := by
  have hAH := hide hA
  have hBH := hide hB
  obtain ⟨A1, c1, A2, c2, A3, c3, rfl, -⟩ := hA
  obtain ⟨B1, d1, B2, d2, B3, d3, rfl, -⟩ := hB
  obtain ⟨w1, hw1, hb1, hB1, hk1⟩ := box_blk w #[.int .i64 a.letters, .int .i64 a.states, .slice A1 a.start.length c1, .slice A2 a.accept.length c2, .slice A3 a.edges.length c3] 25
  obtain ⟨w2, hw2, hb2, hB2, hk2⟩ := box_blk w1 #[.int .i64 b.letters, .int .i64 b.states, .slice B1 b.start.length d1, .slice B2 b.accept.length d2, .slice B3 b.edges.length d3] 25
  have s1 := hb1.size
  have b02 := hide (hb1.trans (hb2.mono s1))
  have hBa2 := hide (hB1.below hb2)
  have hBb2 := hide hB2
  have hTH := hide hT
  have hlH := hide hl
  have hln := hl.1
  have f1 := hBa2.out.cell
  have f2 := hBb2.out.cell
  have hbig := Big_any (hAH.out.keep (w' := w2) (fun p hp => b02.out.cell hp) b02.out.size)
  obtain ⟨n, hn⟩ : ∃ n, n = l.length := ⟨_, rfl⟩
  have hnH := hide hn
  rw [← hn] at hln ⊢
  clear hk1 hk2 hb1 hb2 hB1 hB2 hT hl hn
  go_enter Tryd.func17, Tryd.ntmps17
  go_wp2_with fail
  refine Calls.ret hbig ?_
  rintro r w3 ⟨rfl, hb3⟩
  have b03 := hide (b02.out.trans (hb3.mono b02.out.size))
  have hBa3 := hide (hBa2.out.below (hb3.mono (Nat.le_refl _)))
  have hBb3 := hide (hBb2.out.below (hb3.mono (Nat.le_refl _)))
  have f3 := hBb3.out.cell
  have f4 := hBa3.out.cell
  clear hbig hb3 f1 f2
  cases hbg : a.big with
  | true =>
    have hkn := known_any (hTH.out.below b03.out)
    go_wp2_with fail
    refine Calls.ret hkn ?_
    rintro r wk ⟨rfl, hbk⟩
    have hbK := hide (b03.out.trans (hbk.mono b03.out.size))
    clear hkn hbk
    go_wp2_with fail
    go_ret
    exact ⟨rfl, hbK.out⟩
  | false =>
    obtain ⟨g1, g2, g3⟩ := WA.big_not hbg
    have hbig := Big_any (hBH.out.keep (w' := w3) (fun p hp => b03.out.cell hp) b03.out.size)
    clear hbg
    go_wp2_with fail
    refine Calls.ret hbig ?_
    rintro r w4 ⟨rfl, hb4⟩
    have b04 := hide (b03.out.trans (hb4.mono b03.out.size))
    have hBa4 := hide (hBa3.out.below (hb4.mono (Nat.le_refl _)))
    have hBb4 := hide (hBb3.out.below (hb4.mono (Nat.le_refl _)))
    have f1 := hBa4.out.cell
    have f2 := hBb4.out.cell
    clear hbig hb4 f3 f4
    cases hbg : b.big with
    | true =>
      have hkn := known_any (hTH.out.below b04.out)
      go_wp2_with fail
      refine Calls.ret hkn ?_
      rintro r wk ⟨rfl, hbk⟩
      have hbK := hide (b04.out.trans (hbk.mono b04.out.size))
      clear hkn hbk
      go_wp2_with fail
      go_ret
      exact ⟨rfl, hbK.out⟩
    | false =>
      obtain ⟨k1, k2, k3⟩ := WA.big_not hbg
      clear hbg
      by_cases hlen : 100 < n
      · clear f1 f2
        have hkn := known_any (hTH.out.below b04.out)
        go_wp2_with fail
        refine Calls.ret hkn ?_
        rintro r wk ⟨rfl, hbk⟩
        have hbK := hide (b04.out.trans (hbk.mono b04.out.size))
        clear hkn hbk
        go_wp2_with fail
        go_ret
        exact ⟨rfl, hbK.out⟩
      · have e1 : a.edges.length ≤ 3000000 := by omega
        have e2 : b.edges.length ≤ 3000000 := by omega
        have e3 : a.start.length ≤ 4000000 := by omega
        have e4 : b.start.length ≤ 4000000 := by omega
        have hE := hide (And.intro (And.intro e1 e3) (And.intro e2 e4))
        clear g1 g2 g3 k1 k2 k3 e1 e2 e3 e4
        have hAx := hide (fun (wx : World) (hb : Below w.heap.size w wx) => hAH.out.keep (w' := wx) (fun p hp => hb.cell hp) hb.size)
        have hBx := hide (fun (wx : World) (hb : Below w.heap.size w wx) => hBH.out.keep (w' := wx) (fun p hp => hb.cell hp) hb.size)
        have hcall := Included_any (hAx.out w4 b04.out) (hBx.out w4 b04.out) hE.out.1.1 hE.out.1.2 hE.out.2.1 hE.out.2.2 (hTH.out.below b04.out)
        go_wp2_with fail
        refine Calls.ret hcall ?_
        rintro r w5 ⟨hb5, x1, Z, zc, z, e1, rfl, hZ, hp1, -, hv1⟩
        have b05 := hide (b04.out.trans (hb5.mono b04.out.size))
        have hBa5 := hide (hBa4.out.below (hb5.mono (Nat.le_refl _)))
        have hBb5 := hide (hBb4.out.below (hb5.mono (Nat.le_refl _)))
        have hZH := hide hZ
        have hp1H := hide hp1
        have hv1H := hide hv1
        have f3 := hBa5.out.cell
        have f4 := hBb5.out.cell
        obtain ⟨nz, hnz⟩ : ∃ nz, nz = z.length := ⟨_, rfl⟩
        rw [← hnz]
        have hnzH := hide hnz
        clear hcall hb5 hZ hp1 hv1 f1 f2 hnz
        have hcall := Included_any (hBx.out w5 b05.out) (hAx.out w5 b05.out) hE.out.2.1 hE.out.2.2 hE.out.1.1 hE.out.1.2 (hTH.out.below b05.out)
        go_wp2_with fail
        refine Calls.ret hcall ?_
        rintro r w6 ⟨hb6, x2, Y, yc, y, e2, rfl, -, hp2, -, hv2⟩
        have b56 := hide hb6
        have b06 := hide (b05.out.trans (hb6.mono b05.out.size))
        have hBa6 := hide (hBa5.out.below (hb6.mono (Nat.le_refl _)))
        have hBb6 := hide (hBb5.out.below (hb6.mono (Nat.le_refl _)))
        have hp2H := hide hp2
        have hv2H := hide hv2
        have f1 := hBa6.out.cell
        have f2 := hBb6.out.cell
        generalize y.length = ny at *
        clear hcall hb6 hp2 hv2 f3 f4
        have hcall := Same_any (hAx.out w6 b06.out) (hBx.out w6 b06.out) hE.out.1.1 hE.out.1.2 hE.out.2.1 hE.out.2.2 (hTH.out.below b06.out)
        go_wp2_with fail
        refine Calls.ret hcall ?_
        rintro r w7 ⟨hb7, x3, e3, rfl, hp3, -, hv3⟩
        have b57 := hide (b56.out.trans (hb7.mono b56.out.size))
        have b07 := hide (b06.out.trans (hb7.mono b06.out.size))
        have hBa7 := hide (hBa6.out.below (hb7.mono (Nat.le_refl _)))
        have hBb7 := hide (hBb6.out.below (hb7.mono (Nat.le_refl _)))
        have hv3H := hide hv3
        obtain rfl : e1 = e3 := pErr_fun hp1H.out hp3
        clear hcall hb7 hp3 hv3 f1 f2
        by_cases hz : e1 = 0
        · subst hz
          obtain rfl : e2 = 0 := pErr_back hp1H.out hp2H.out
          obtain ⟨hbo, hnla, hnlb⟩ := pErr_zero hp1H.out
          obtain ⟨oka, okb, hle⟩ := WA.both_iff.1 hbo
          have hLL : b.L = a.L := by unfold WA.L; rw [hle]
          have hi1 := hv1H.out rfl
          have hi2 := hv2H.out rfl
          have hi3 := hv3H.out rfl
          rw [hLL] at hi2
          have q1 : x1 = true ↔ ∀ z, okW a.L z → a.lang z = true → b.lang z = true := by
            rcases hi1 with ⟨h1, h2⟩ | ⟨h1, h2, h3, h4⟩
            · exact ⟨fun _ => h2, fun _ => h1⟩
            · refine ⟨fun h => (by rw [h1] at h; cases h), fun h => ?_⟩
              have := h z h2 h3
              rw [h4] at this; cases this
          have q2 : x2 = true ↔ ∀ z, okW a.L z → b.lang z = true → a.lang z = true := by
            rcases hi2 with ⟨h1, h2⟩ | ⟨h1, h2, h3, h4⟩
            · exact ⟨fun _ => h2, fun _ => h1⟩
            · refine ⟨fun h => (by rw [h1] at h; cases h), fun h => ?_⟩
              have := h y h2 h3
              rw [h4] at this; cases this
          have q3 : x3 = (x1 && x2) := bool_and q1 q2 hi3 ⟨fun h => ⟨fun z hz h1 => by rw [← h z hz]; exact h1, fun z hz h1 => by rw [h z hz]; exact h1⟩, fun ⟨h1, h2⟩ z hz => Bool.eq_iff_iff.2 ⟨h1 z hz, h2 z hz⟩⟩
          have hzw : Hid (x1 = false → okW a.L z ∧ a.lang z = true ∧ b.lang z = false) := by
            show _ → _
            intro hx
            rcases hi1 with ⟨h1, h2⟩ | ⟨h1, h2⟩
            · rw [hx] at h1; cases h1
            · exact h2
          have q1H := hide q1
          have q3H := hide q3
          have hi3H := hide hi3
          have hokH := hide (And.intro oka okb)
          have hleH := hide hle
          have hLLH := hide hLL
          have hma := refmin_any (hAx.out w7 b07.out) hE.out.1.1 hE.out.1.2 (hTH.out.below b07.out)
          have hnlbH := hide hnlb
          have f3 := hBa7.out.cell
          have hgood := hide (fun (r : Value) (w' : World) (h : MinRet w7 a r w') => h.good oka hnla)
          clear hbo hnla hnlb oka okb hle hLL hi1 hi2 hi3 q1 q2 q3
          go_wp2_with fail
          refine Calls.ret hma ?_
          intro r w8 hret
          obtain ⟨hb8, ta, aca, da, hCa, haca, rfl, hI8⟩ := hgood.out r w8 hret
          obtain ⟨m, hm⟩ : ∃ m, m = plainW a.L ta aca := ⟨_, rfl⟩
          rw [← hm] at hI8
          have hbo := lay_box hI8
          obtain ⟨E1, h1, E2, h2, E3, h3, w9, rfl, hw9, hb9, hB9, hI9⟩ := hbo
          have b79 := hb8.trans (hb9.mono hb8.size)
          have b59 := hide (b57.out.trans (b79.mono b57.out.size))
          have b09 := hide (b07.out.trans (b79.mono b07.out.size))
          have hBa9 := hide (hBa7.out.below (b79.mono (Nat.le_refl _)))
          have hBb9 := hide (hBb7.out.below (b79.mono (Nat.le_refl _)))
          have hBm9 := hide hB9
          have hIm9 := hide hI9
          have hCaH := hide hCa
          have hmH := hide hm
          have f4 := hBb9.out.cell
          have hmb := refmin_any (hBx.out w9 b09.out) hE.out.2.1 hE.out.2.2 (hTH.out.below b09.out)
          have hgood := hide (fun (r : Value) (w' : World) (h : MinRet w9 b r w') => h.good hokH.out.2 hnlbH.out)
          clear hma hret hb8 hCa haca hI8 hb9 hB9 hI9 b79 f3 hm
          go_wp2_with fail
          refine Calls.ret hmb ?_
          intro r w10 hret
          obtain ⟨hb10, tb, bcb, db, hCb, hbcb, rfl, hI10⟩ := hgood.out r w10 hret
          rw [hLLH.out] at hCb hI10
          have hsam : Hid (decide (m = plainW a.L tb bcb) = x3) := by
            show _ = _
            rw [Bool.eq_iff_iff, decide_eq_true_iff, hmH.out, plain_eq hCaH.out hCb, hi3H.out]
          obtain ⟨q, hq⟩ : ∃ q, q = plainW a.L tb bcb := ⟨_, rfl⟩
          rw [← hq] at hI10 hsam
          have hbo := lay_box hI10
          obtain ⟨F1, f1, F2, f2, F3, f3, w11, rfl, hw11, hb11, hB11, hI11⟩ := hbo
          have b911 := hb10.trans (hb11.mono hb10.size)
          have b511 := hide (b59.out.trans (b911.mono b59.out.size))
          have b011 := hide (b09.out.trans (b911.mono b09.out.size))
          have hBa11 := hide (hBa9.out.below (b911.mono (Nat.le_refl _)))
          have hBb11 := hide (hBb9.out.below (b911.mono (Nat.le_refl _)))
          have hBm11 := hide (hBm9.out.below (b911.mono (Nat.le_refl _)))
          have hIm11 := hide (hIm9.out.keep (w' := w11) (fun p hp => b911.cell hp) b911.size)
          have hBq11 := hide hB11
          have hIq11 := hide hI11
          have j1 := hBa11.out.cell
          have hcall := Accepts_any (c := c) (hAx.out w11 b011.out) hE.out.1.1 hE.out.1.2 (hlH.out.keep (w' := w11) (fun p hp => b011.out.cell hp) (Nat.le_refl _)) b011.out.size
          rw [← hnH.out] at hcall
          unfold WA.accR at hcall
          have hcb := hide (fun (wx : World) (hb : Below w.heap.size w wx) => Accepts_any (c := c) (hBx.out wx hb) hE.out.2.1 hE.out.2.2 (hlH.out.keep (w' := wx) (fun p hp => hb.cell hp) (Nat.le_refl _)) hb.size)
          have hwd : Hid (∃ (p q' : Bool) (ee : Bool), a.acc l = p ∧ a.accV l = ee ∧ b.acc l = q' ∧ b.accV l = ee ∧ (ee = true → x1 = true → p = true → q' = true)) := by
            show ∃ _, _
            have hvv : b.accV l = a.accV l := by unfold WA.accV; rw [hokH.out.1, hokH.out.2, hleH.out]
            rcases a.acc_cases hokH.out.1 l with ⟨u1, u2⟩ | ⟨v, rfl, hv, u1, u2⟩
            · exact ⟨_, _, _, rfl, rfl, rfl, hvv, fun h => by rw [u1] at h; cases h⟩
            · refine ⟨_, _, _, rfl, rfl, rfl, hvv, fun _ hx hp => ?_⟩
              obtain ⟨-, u3⟩ := WA.acc_word hokH.out.2 (u := v) (by rw [hLLH.out]; exact hv)
              rw [u3]
              rw [u2] at hp
              exact q1H.out.1 hx v hv hp
          clear hmb hret hb10 hCb hbcb hI10 hb11 hB11 hI11 b911 f4 hq
          obtain ⟨p, q', ee, hp, hee, hq', hee', himp⟩ := hwd.out
          rw [hp, hee] at hcall
          have hpq := hide (And.intro hq' hee')
          have himpH := hide himp
          clear hp hee hq' hee' himp
          go_wp2_with fail
          refine Calls.ret hcall ?_
          rintro r w12 ⟨rfl, hb12⟩
          have b512 := hide (b511.out.trans (hb12.mono b511.out.size))
          have b012 := hide (b011.out.trans (hb12.mono b011.out.size))
          have hBa12 := hide (hBa11.out.below (hb12.mono (Nat.le_refl _)))
          have hBb12 := hide (hBb11.out.below (hb12.mono (Nat.le_refl _)))
          have hBm12 := hide (hBm11.out.below (hb12.mono (Nat.le_refl _)))
          have hBq12 := hide (hBq11.out.below (hb12.mono (Nat.le_refl _)))
          have hIm12 := hide (hIm11.out.keep (w' := w12) (fun p hp => hb12.cell hp) hb12.size)
          have hIq12 := hide (hIq11.out.keep (w' := w12) (fun p hp => hb12.cell hp) hb12.size)
          have j2 := hBb12.out.cell
          clear hcall hb12 j1
          have hcall := hcb.out w12 b012.out
          rw [← hnH.out] at hcall
          unfold WA.accR at hcall
          rw [hpq.out.1, hpq.out.2] at hcall
          go_wp2_with fail
          refine Calls.ret hcall ?_
          rintro r w13 ⟨rfl, hb13⟩
          have b513 := hide (b512.out.trans (hb13.mono b512.out.size))
          have b013 := hide (b012.out.trans (hb13.mono b012.out.size))
          have hBa13 := hide (hBa12.out.below (hb13.mono (Nat.le_refl _)))
          have hBb13 := hide (hBb12.out.below (hb13.mono (Nat.le_refl _)))
          have hBm13 := hide (hBm12.out.below (hb13.mono (Nat.le_refl _)))
          have hBq13 := hide (hBq12.out.below (hb13.mono (Nat.le_refl _)))
          have hIm13 := hide (hIm12.out.keep (w' := w13) (fun p hp => hb13.cell hp) hb13.size)
          have hIq13 := hide (hIq12.out.keep (w' := w13) (fun p hp => hb13.cell hp) hb13.size)
          clear hcall hb13 j2
          cases x1 with
          | true =>
            have j1 := hBm13.out.cell
            have j2 := hBq13.out.cell
            have hsa := sameAutomaton_any hIm13.out hIq13.out
            rw [hsam.out] at hsa
            have hq3 := q3H.out
            rw [Bool.true_and] at hq3
            subst hq3
            have himp := himpH.out
            cases x3 <;> cases ee <;> cases p <;> cases q' <;> first
            | exact absurd (himp rfl rfl rfl) (by decide)
            | (simp only [errno] at *
               go_wp2_with fail
               refine Calls.ret hsa ?_
               rintro r w16 ⟨rfl, hb16⟩
               have b016 := hide (b013.out.trans (hb16.mono b013.out.size))
               have hkn := known_any (hTH.out.below b016.out)
               clear hsa hb16 j1 j2
               go_wp2_with fail
               refine Calls.ret hkn ?_
               rintro r wk ⟨rfl, hbk⟩
               have hbK := hide (b016.out.trans (hbk.mono b016.out.size))
               clear hkn hbk
               go_wp2_with fail
               go_ret
               exact ⟨rfl, hbK.out⟩)
          | false =>
            obtain ⟨v1, v2, v3⟩ := hzw.out rfl
            have hzl : (natL z).length = nz := by rw [hnzH.out]; simp [natL]
            obtain ⟨u1, u2⟩ := WA.acc_word hokH.out.1 v1
            obtain ⟨u3, u4⟩ := WA.acc_word hokH.out.2 (u := z) (by rw [hLLH.out]; exact v1)
            have hcall := Accepts_any (c := zc) (hAx.out w13 b013.out) hE.out.1.1 hE.out.1.2 (hZH.out.keep (w' := w13) (fun p hp => b513.out.cell hp) (Nat.le_refl _)) b513.out.size
            have hcz := hide (fun (wx : World) (hb : Below w.heap.size w wx) (hb5 : Below w5.heap.size w5 wx) => Accepts_any (c := zc) (hBx.out wx hb) hE.out.2.1 hE.out.2.2 (hZH.out.keep (w' := wx) (fun p hp => hb5.cell hp) (Nat.le_refl _)) hb5.size)
            unfold WA.accR at hcall hcz
            rw [hzl, u1, u2, v2, show errno true = 0 from rfl] at hcall
            rw [hzl, u3, u4, v3, show errno true = 0 from rfl] at hcz
            have j1 := hBa13.out.cell
            clear v1 v2 v3 u1 u2 u3 u4 hzl
            go_wp2_with fail
            refine Calls.ret hcall ?_
            rintro r w14 ⟨rfl, hb14⟩
            have b514 := hide (b513.out.trans (hb14.mono b513.out.size))
            have b014 := hide (b013.out.trans (hb14.mono b013.out.size))
            have hBb14 := hide (hBb13.out.below (hb14.mono (Nat.le_refl _)))
            have hBm14 := hide (hBm13.out.below (hb14.mono (Nat.le_refl _)))
            have hBq14 := hide (hBq13.out.below (hb14.mono (Nat.le_refl _)))
            have hIm14 := hide (hIm13.out.keep (w' := w14) (fun p hp => hb14.cell hp) hb14.size)
            have hIq14 := hide (hIq13.out.keep (w' := w14) (fun p hp => hb14.cell hp) hb14.size)
            have j2 := hBb14.out.cell
            clear hcall hb14 j1
            have hcall := hcz.out w14 b014.out b514.out
            go_wp2_with fail
            refine Calls.ret hcall ?_
            rintro r w15 ⟨rfl, hb15⟩
            have b015 := hide (b014.out.trans (hb15.mono b014.out.size))
            have hIm15 := hIm14.out.keep (w' := w15) (fun p hp => hb15.cell hp) hb15.size
            have hIq15 := hIq14.out.keep (w' := w15) (fun p hp => hb15.cell hp) hb15.size
            have j1 := (hBm14.out.below (hb15.mono (Nat.le_refl _))).cell
            have j3 := (hBq14.out.below (hb15.mono (Nat.le_refl _))).cell
            have hsa := sameAutomaton_any hIm15 hIq15
            rw [hsam.out] at hsa
            have hq3 := q3H.out
            rw [Bool.false_and] at hq3
            subst hq3
            clear hcall hb15 j2 hIm15 hIq15
            cases x2 <;> cases ee
            all_goals
              simp only [errno] at *
              go_wp2_with fail
              refine Calls.ret hsa ?_
              rintro r w16 ⟨rfl, hb16⟩
              have b016 := hide (b015.out.trans (hb16.mono b015.out.size))
              have hkn := known_any (hTH.out.below b016.out)
              clear hsa hb16 j1 j3
              go_wp2_with fail
              refine Calls.ret hkn ?_
              rintro r wk ⟨rfl, hbk⟩
              have hbK := hide (b016.out.trans (hbk.mono b016.out.size))
              clear hkn hbk
              go_wp2_with fail
              go_ret
              exact ⟨rfl, hbK.out⟩
        · have hz2 : (e1 == 0) = false := by simpa using hz
          have hkn := known_any (hTH.out.below b07.out)
          go_wp2_with fail
          refine Calls.ret hkn ?_
          rintro r wk ⟨rfl, hbk⟩
          have hbK := hide (b07.out.trans (hbk.mono b07.out.size))
          clear hkn hbk
          go_wp2_with fail
          go_ret
          exact ⟨rfl, hbK.out⟩
end Go.Proofs.YtpmceapjnnkhjaaDoor
