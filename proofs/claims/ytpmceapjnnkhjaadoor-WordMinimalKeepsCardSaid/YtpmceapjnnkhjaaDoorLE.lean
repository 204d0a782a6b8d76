/-
  Part LE of a proof.
-/
import Derived.Test.YtpmceapjnnkhjaaDoorTie
import Derived.Test.YtpmceapjnnkhjaaDoorCards
import Derived.Test.YtpmceapjnnkhjaaDoorPA
import Derived.Test.YtpmceapjnnkhjaaDoorLB
import Derived.Test.YtpmceapjnnkhjaaDoorLD
import Derived.Test.YtpmceapjnnkhjaaDoorPR
import Derived.Test.YtpmceapjnnkhjaaDoorPO
import Derived.Test.YtpmceapjnnkhjaaDoorPQ
set_option maxHeartbeats 16000000
set_option maxRecDepth 100000
set_option linter.unusedVariables false
set_option linter.unusedSimpArgs false
namespace Go.Proofs.YtpmceapjnnkhjaaDoor
open Go.RowKit
set_option maxHeartbeats 16000000
set_option maxRecDepth 100000
theorem lawMinKeeps {v : Value} {a : WA} {w : World} {A : Option Addr} {c : Nat} {l : List Int} (h : IsWA w w.heap.size v a) (hl : Sl w w.heap.size 1 encI A l) (hT : PowT w) :
  Calls Tryd.prog 7 #[v, .slice A l.length c] w (Ret fun v w' => v = .bool true ∧ Below w.heap.size w w') := by
 have hWA := hide h
 obtain ⟨A1, c1, A2, c2, A3, c3, rfl, h1, h2, h3, h4⟩ := h
 obtain ⟨w1, hw1, hb1, hB1, hk1⟩ := box_blk w #[.int .i64 a.letters, .int .i64 a.states, .slice A1 a.start.length c1, .slice A2 a.accept.length c2, .slice A3 a.edges.length c3] 25
 have hs1 := hb1.size
 have hc1 := hB1.cell
 have hb1H := hide hb1
 have hB1H := hide hB1
 have hTH := hide hT
 have hlH := hide hl
 have hln := hl.1
 have hbig := Big_any (hWA.out.keep (w' := w1) (fun p hp => hb1.cell hp) hs1)
 obtain ⟨n, hn⟩ : ∃ n, n = l.length := ⟨_, rfl⟩
 have hnH := hide hn
 rw [← hn] at hln ⊢
 clear h1 h2 h3 h4 hk1 hb1 hB1 hT hl hn
 go_enter Tryd.func7, Tryd.ntmps7
 go_wp2_with fail
 refine Calls.ret hbig ?_
 rintro r w2 ⟨rfl, hb2⟩
 have hb02 := hide (hb1H.out.trans (hb2.mono hs1))
 have hB2 := hide (hB1H.out.below hb2)
 have hc2 := hB2.out.cell
 have hkn2 := known_any (hTH.out.below hb02.out)
 clear hbig hb2 hc1
 cases hbg : a.big with
 | true =>
  go_wp2_with fail
  refine Calls.ret hkn2 ?_
  rintro r w3 ⟨rfl, hb3⟩
  have hb03 := hide (hb02.out.trans (hb3.mono hb02.out.size))
  clear hb3 hkn2
  go_wp2_with fail
  go_ret
  exact ⟨rfl, hb03.out⟩
 | false =>
  obtain ⟨g1, g2, g3⟩ := WA.big_not hbg
  clear hbg
  by_cases hlen : 100 < n
  ·go_wp2_with fail
   refine Calls.ret hkn2 ?_
   rintro r w3 ⟨rfl, hb3⟩
   have hb03 := hide (hb02.out.trans (hb3.mono hb02.out.size))
   clear hb3 hkn2
   go_wp2_with fail
   go_ret
   exact ⟨rfl, hb03.out⟩
  ·clear hkn2
   have hm1 := refmin_any (hWA.out.keep (w' := w2) (fun p hp => hb02.out.cell hp) hb02.out.size) (by omega) (by omega) (hTH.out.below hb02.out)
   go_wp2_with fail
   refine Calls.ret hm1 ?_
   rintro r w3 ⟨hb3, hcase⟩
   have hb03 := hide (hb02.out.trans (hb3.mono hb02.out.size))
   have hB3 := hide (hB2.out.below (hb3.mono (Nat.le_refl _)))
   have hc3 := hB3.out.cell
   have hT3 := hide (hTH.out.below hb03.out)
   clear hm1 hb3 hc2
   rcases hcase with ⟨hok, rfl⟩ | ⟨hok, hLg, rfl⟩ | ⟨hok, hLg, t, ac, d, hC, hac, rfl, hd⟩
   ·clear hok
    simp only [zero25, sn0]
    obtain ⟨w4, hw4, hb4, hB4, hk4⟩ := box_blk w3 #[.int .i64 0, .int .i64 0, .slice none 0 0, .slice none 0 0, .slice none 0 0] 25
    have hf4 := hB4.frozen
    have hc4 := hB4.cell
    have hl4 := hB4.lt
    obtain ⟨wz, hwz, hBz, hKz⟩ := set5_facts hB4 (.int .i64 0) (.int .i64 0) (.slice none 0 0) (.slice none 0 0) (.slice none 0 0)
    have hcz := hBz.cell
    have hbz : Below w3.heap.size w3 wz := hb4.trans (hKz.below hb4.size fun b hb e => by omega)
    unfold set5 at hwz
    have hb04 := hide (hb03.out.trans (hbz.mono hb03.out.size))
    have hkn := known_any (hT3.out.below hbz)
    clear hb4 hB4 hk4 hBz hKz hbz
    go_wp2_with fail
    refine Calls.ret hkn ?_
    rintro r w5 ⟨rfl, hb5⟩
    have hb05 := hide (hb04.out.trans (hb5.mono hb04.out.size))
    clear hkn hb5
    go_wp2_with fail
    go_ret
    exact ⟨rfl, hb05.out⟩
   ·clear hok hLg
    simp only [zero25, sn0]
    obtain ⟨w4, hw4, hb4, hB4, hk4⟩ := box_blk w3 #[.int .i64 0, .int .i64 0, .slice none 0 0, .slice none 0 0, .slice none 0 0] 25
    have hf4 := hB4.frozen
    have hc4 := hB4.cell
    have hl4 := hB4.lt
    obtain ⟨wz, hwz, hBz, hKz⟩ := set5_facts hB4 (.int .i64 0) (.int .i64 0) (.slice none 0 0) (.slice none 0 0) (.slice none 0 0)
    have hcz := hBz.cell
    have hbz : Below w3.heap.size w3 wz := hb4.trans (hKz.below hb4.size fun b hb e => by omega)
    unfold set5 at hwz
    have hb04 := hide (hb03.out.trans (hbz.mono hb03.out.size))
    have hkn := known_any (hT3.out.below hbz)
    clear hb4 hB4 hk4 hBz hKz hbz
    go_wp2_with fail
    refine Calls.ret hkn ?_
    rintro r w5 ⟨rfl, hb5⟩
    have hb05 := hide (hb04.out.trans (hb5.mono hb04.out.size))
    clear hkn hb5
    go_wp2_with fail
    go_ret
    exact ⟨rfl, hb05.out⟩
   ·have hI3 := hd w3 (Kept.refl _ _)
    have hP := hC.plain_ok hok hac
    have hCH := hide hC
    have hokH := hide hok
    have hPH := hide hP
    obtain ⟨m, hm⟩ : ∃ m, m = plainW a.L t ac := ⟨_, rfl⟩
    have hmH := hide hm
    rw [← hm] at hI3 hP
    have hI3H := hide hI3
    have hme : Hid (m.edges.length ≤ 900000 ∧ m.start.length ≤ 1000000) := by
     have h8 := (WA.ok_iff.1 hok).1
     have e1 : a.L ≤ 8 := by unfold WA.L; omega
     have e2 : ac.length * a.L ≤ 400 * 8 := Nat.mul_le_mul hac e1
     rw [hm]
     exact ⟨by rw [plainW_edges]; omega, by simp [plainW]⟩
    obtain ⟨B1, d1, B2, d2, B3, d3, rfl, -⟩ := id hI3
    obtain ⟨w4, hw4, hb4, hB4, hk4⟩ := box_blk w3 #[.int .i64 m.letters, .int .i64 m.states, .slice B1 m.start.length d1, .slice B2 m.accept.length d2, .slice B3 m.edges.length d3] 25
    have hb04 := hide (hb03.out.trans (hb4.mono hb03.out.size))
    have hI4 := hide (hI3H.out.keep (w' := w4) (fun p hp => hb4.cell hp) hb4.size)
    have hB4H := hide hB4
    have hc4 := hB4.cell
    have hBa4 := hide (hB3.out.below (hb4.mono (Nat.le_refl _)))
    have hm2 := refmin_any hI4.out hme.out.1 hme.out.2 (hTH.out.below hb04.out)
    have hacH := hide hac
    clear hC hok hac hd hLg hP hI3 hb4 hB4 hk4 hm hc3
    go_wp2_with fail
    refine Calls.ret hm2 ?_
    rintro r w5 ⟨hb5, hcase⟩
    have hb05 := hide (hb04.out.trans (hb5.mono hb04.out.size))
    have hI5 := hide (hI4.out.keep (w' := w5) (fun p hp => hb5.cell hp) hb5.size)
    have hc5 := (hB4H.out.below (hb5.mono (Nat.le_refl _))).cell
    have hB5 := hide (hB4H.out.below (hb5.mono (Nat.le_refl _)))
    have hBa5 := hide (hBa4.out.below (hb5.mono (Nat.le_refl _)))
    have hmok : m.ok = true := by rw [hmH.out]; exact hPH.out
    rcases hcase with ⟨hno, -⟩ | ⟨-, hno, -⟩ | ⟨-, -, t', ac', d', hC', -, rfl, hd'⟩
    ·rw [hmok] at hno; cases hno
    ·rw [hmH.out] at hno
     exact (plainW_large hCH.out.ok hacH.out hno).elim
    have hI5' := hd' w5 (Kept.refl _ _)
    have hsame : Hid (plainW m.L t' ac' = m) := by
     rw [hmH.out] at hC' ⊢
     exact hCH.out.again hC'
    rw [hsame.out] at hI5'
    obtain ⟨E1, f1, E2, f2, E3, f3, rfl, -⟩ := id hI5'
    obtain ⟨w6, hw6, hb6, hB6, hk6⟩ := box_blk w5 #[.int .i64 m.letters, .int .i64 m.states, .slice E1 m.start.length f1, .slice E2 m.accept.length f2, .slice E3 m.edges.length f3] 25
    have hb06 := hide (hb05.out.trans (hb6.mono hb05.out.size))
    have hI6 := hide (hI5.out.keep (w' := w6) (fun p hp => hb6.cell hp) hb6.size)
    have hI6' := hide (hI5'.keep (w' := w6) (fun p hp => hb6.cell hp) hb6.size)
    have hB6H := hide hB6
    have hBm6 := hide (hB5.out.below (hb6.mono (Nat.le_refl _)))
    have hBa6 := hBa5.out.below (hb6.mono (Nat.le_refl _))
    have hc6 := hBa6.cell
    have hv1 := Accepts_any (c := c) (hWA.out.keep (w' := w6) (fun p hp => hb06.out.cell hp) hb06.out.size) (by omega) (by omega) (hlH.out.keep (w' := w6) (fun p hp => hb06.out.cell hp) (Nat.le_refl _)) hb06.out.size
    rw [← hnH.out] at hv1
    have hsm := WA.acc_same (a := a) (b := m) hokH.out hmok (by rw [hmH.out]; exact plainW_L) (fun w hw => by rw [hmH.out]; exact hCH.out.plain_lang hw) l
    have hsmH : Hid (m.accR l = a.accR l) := by show _ = _; unfold WA.accR; rw [hsm.1, hsm.2]
    clear hm2 hb5 hI5' hC' hd' hb6 hB6 hk6 hBa6 hsm hc5
    go_wp2_with fail
    refine Calls.ret hv1 ?_
    rintro r w7 ⟨rfl, hb7⟩
    have hb07 := hide (hb06.out.trans (hb7.mono hb06.out.size))
    have hI7 := hide (hI6.out.keep (w' := w7) (fun p hp => hb7.cell hp) hb7.size)
    have hI7' := hide (hI6'.out.keep (w' := w7) (fun p hp => hb7.cell hp) hb7.size)
    have hB7 := hide (hB6H.out.below (hb7.mono (Nat.le_refl _)))
    have hBm7 := hide (hBm6.out.below (hb7.mono (Nat.le_refl _)))
    have hc7 := hBm7.out.cell
    have hv2 := Accepts_any (c := c) hI7.out hme.out.1 hme.out.2 (hlH.out.keep (w' := w7) (fun p hp => hb07.out.cell hp) (Nat.le_refl _)) hb07.out.size
    rw [← hnH.out, hsmH.out] at hv2
    clear hv1 hb7
    unfold WA.accR at *
    generalize a.acc l = x1 at *
    generalize errno (a.accV l) = e1 at *
    have heq : (e1 == e1) = true := by simp
    have heq2 : (x1 == x1) = true := by simp
    go_wp2_with fail
    refine Calls.ret hv2 ?_
    rintro r w8 ⟨rfl, hb8⟩
    have hb08 := hide (hb07.out.trans (hb8.mono hb07.out.size))
    have hI8 := hide (hI7.out.keep (w' := w8) (fun p hp => hb8.cell hp) hb8.size)
    have hI8' := hide (hI7'.out.keep (w' := w8) (fun p hp => hb8.cell hp) hb8.size)
    have hB8 := hide (hB7.out.below (hb8.mono (Nat.le_refl _)))
    have hBm8 := hide (hBm7.out.below (hb8.mono (Nat.le_refl _)))
    have hc8 := hBm8.out.cell
    have hc8' := hB8.out.cell
    have hsa := sameAutomaton_any hI8.out hI8'.out
    rw [decide_eq_true (rfl : m = m)] at hsa
    clear hv2 hb8 hc7
    go_wp2_with fail
    refine Calls.ret hsa ?_
    rintro r w9 ⟨rfl, hb9⟩
    have hb09 := hide (hb08.out.trans (hb9.mono hb08.out.size))
    have hkn := known_any (hTH.out.below hb09.out)
    clear hsa hb9
    go_wp2_with fail
    refine Calls.ret hkn ?_
    rintro r w10 ⟨rfl, hb10⟩
    have hb010 := hide (hb09.out.trans (hb10.mono hb09.out.size))
    clear hkn hb10
    go_wp2_with fail
    go_ret
    exact ⟨rfl, hb010.out⟩
end Go.Proofs.YtpmceapjnnkhjaaDoor
namespace Go.Proofs.YtpmceapjnnkhjaaDoor
open Go.RowKit Go.ChangeShapes Go.WideShapes Go.Deep Go.ChangeAt Go.WideMaps Go.WideElems
theorem wordMinimalKeeps_lifted (os : Os) (started : os.Started) (H : Type) (enc : TypeId × Value → H) :
  ReturnsInHanded {} Tryd.checked os 7 .any (fun w args => (Rows.wordMinimalKeepsSpec.pre enc Tryd.prog Tryd.f7 Rows.wordMinimalKeepsRow.domain false w args ∧ laidMetH Tryd.prog Rows.wordMinimalKeepsRow.laid w) ∧ sizedMet enc Tryd.prog Tryd.f7 (OpenSpec.ofChange Rows.wordMinimalKeepsSpec) false w args)
   (Rows.wordMinimalKeepsSpec.post enc Tryd.prog Tryd.f7 false true false false) := by
 refine returnsInHanded_of_change_and (C := Tryd.checked) (X := fun w _ => laidMetH Tryd.prog Rows.wordMinimalKeepsRow.laid w) (fun _ _ _ hh h => h.of_heap hh) knobF started (by kernel_rfl) Tryd.func7
  (ChangeSpec.witness_shaped (enc := enc) (C := Tryd.checked) (os := os) (X := fun w _ => laidMetH Tryd.prog Rows.wordMinimalKeepsRow.laid w) false (World.doorLaid Tryd.prog 400 os) #[.agg #[.int .i64 0, .int .i64 0, .slice none 0 0, .slice none 0 0, .slice none 0 0], .slice none 0 0] 8 rfl (World.shaped_of_RefB (by kernel_rfl) (by kernel_rfl)) (by kernel_rfl) (by kernel_rfl) (by kernel_rfl) (door_metF os _)) ?_
 intro W base args ds gs before hval0 hW _ _ hL _
 have hval : ∀ (j : Nat) t v, Tryd.f7.params[j]? = some t → args[j]? = some v → Value.okWide Tryd.prog W .any base t v := hval0
 have hW' := hW
 obtain ⟨p, q, hA0, hV, rfl, hfz, hnd⟩ := hW
 have hA : DataW.TrodAll enc Tryd.prog W 0 (fun _ => true) true Tryd.f7.params.toList args.toList ds p := hA0
 rw [Tryd.params7] at hA hval
 obtain ⟨v0, v1, d0, d1, p0, p1, rfl, rfl, rfl, h0, h1⟩ := trodAll_two hA
 obtain ⟨rfl, rfl⟩ := trodVars_none hV
 obtain ⟨a0, g0⟩ := wa_in (hval 0 25 v0 rfl rfl) h0
 obtain ⟨A1, c1, l1, rfl, g1, k1⟩ := ints_in (hval 1 22 v1 rfl rfl) h1
 simp only [List.append_nil] at hW'
 have hlt := hW'.lt
 refine Calls.ret (lawMinKeeps g0 g1 (pow_of hL)) fun v W' ⟨hv, hb⟩ => ?_
 subst hv
 exact ⟨_, rfl, law_postF rfl hW' (fun _ _ _ => trodAll_mk1 (shut_bool Tryd.underlying4 _)) (fun sp hsp => by
  rw [Tryd.params7]
  exact trodAll_mk2 (WideElems.Trod_stays laid_outF (by kernel_rfl) (of_decide_eq_true (by kernel_rfl)) h0 (fun x hx => hb.same (hlt x (List.mem_append_left _ hx))) (fun x hx => hsp x (List.mem_append_left _ hx))) (WideElems.Trod_stays laid_outF (by kernel_rfl) (of_decide_eq_true (by kernel_rfl)) h1 (fun x hx => hb.same (hlt x (List.mem_append_right _ hx))) (fun x hx => hsp x (List.mem_append_right _ hx)))) rfl hb (ok_one (by kernel_rfl) rfl (okWide_bool_mk Tryd.underlying4 _))⟩
theorem wordMinimalKeeps_facts : joinedFacts Tryd.checked.prog 7 Tryd.f7 Rows.wordMinimalKeepsSpec Rows.wordMinimalKeepsRow = true :=
 joined_of (by kernel_rfl) seat_a2 seat_a3 (by kernel_rfl) (by kernel_rfl) (by kernel_rfl) seat_a7 (by kernel_rfl) seat_a9 (by kernel_rfl) (by kernel_rfl) (by kernel_rfl) (by kernel_rfl) (by kernel_rfl) (by kernel_rfl) (by kernel_rfl) (by kernel_rfl) (by kernel_rfl) (by kernel_rfl) (by kernel_rfl) (by kernel_rfl) (by kernel_rfl) seat_d5 (by kernel_rfl) seat_d7 seat_d8 seat_d9 seat_e1 (by kernel_rfl) (by kernel_rfl) (by kernel_rfl) (by kernel_rfl)
theorem wordMinimalKeeps_row : Rows.WordMinimalKeepsSaid :=
 OpenClaim.holds_of_wide 7 Tryd.f7 rfl rfl rfl rfl rfl rfl rfl ⟨rfl, rfl, rfl, rfl, rfl⟩ rfl rfl rfl rfl rfl (by kernel_rfl) Tryd.func7 wordMinimalKeeps_facts
  (of_decide_eq_true (by kernel_rfl)) (by unfold Func.isWrapper; first | (rw [if_pos (by decide +kernel)]; kernel_rfl) | (rw [if_neg (by decide +kernel)]; exact ⟨rfl, rfl⟩))
  (fun os started H enc _ => wordMinimalKeeps_lifted os started H enc)
end Go.Proofs.YtpmceapjnnkhjaaDoor
namespace Go.Proofs.YtpmceapjnnkhjaaDoor
open Go
theorem wordMinimalKeeps_goes : false = Rows.wordMinimalKeepsRow.goesBy Tryd.checked.prog := by kernel_rfl
theorem wordMinimalKeeps_card : Rows.WordMinimalKeepsCardSaid :=
 Claim7.holds_tied_plain_at .later [] [.data, .data, .data] true (true, "6daf4f740c5c153ba95715f286d9de89d8df7fc8863bab305309aec69a24d890") true
  wordMinimalKeeps_row (fun _ h => by cases h) (by kernel_rfl) (fun _ h => by cases h) wordMinimalKeeps_row_tie rfl ⟨rfl, rfl⟩ seat_main rfl
  (fun f fn hf hfn => by
   obtain rfl : f = 7 := Option.some.inj ((show Tryd.prog.funcNamed "familycheck/familychecklaw06.WordMinimalKeeps" = some 7 by kernel_rfl).symm.trans hf) |>.symm
   obtain rfl : fn = Tryd.f7 := (Option.some.inj (Tryd.func7.symm.trans hfn)).symm
   exact ⟨seat_looks, fun j t ht => by
    rw [Tryd.params7] at ht
    have hm : t ∈ [25, 22] := by simpa using Array.mem_of_getElem? ht
    have hall : ([25, 22].all fun u => !Tryd.prog.wantsStandIn u) = true := by kernel_rfl
    exact (show Tryd.prog.wantsStandIn t = false by simpa using List.all_eq_true.1 hall t hm)⟩)
  wordMinimalKeeps_goes
#print axioms wordMinimalKeeps_card
end Go.Proofs.YtpmceapjnnkhjaaDoor
