/-
  The shortest word is accepted and no accepted word comes before it. The tied card.
-/
import Derived.Test.YtpmceapjnnkhjaaDoorTie
import Derived.Test.YtpmceapjnnkhjaaDoorCards
import Derived.Test.YtpmceapjnnkhjaaDoorPA
import Derived.Test.YtpmceapjnnkhjaaDoorLB
import Derived.Test.YtpmceapjnnkhjaaDoorLD
import Derived.Test.YtpmceapjnnkhjaaDoorPR
import Derived.Test.YtpmceapjnnkhjaaDoorPO
import Derived.Test.YtpmceapjnnkhjaaDoorPQ
set_option maxHeartbeats 16000000
set_option maxRecDepth 100000
set_option linter.unusedVariables false
set_option linter.unusedSimpArgs false
namespace Go.Proofs.YtpmceapjnnkhjaaDoor
open Go.RowKit
set_option maxHeartbeats 16000000
set_option maxRecDepth 100000
theorem lawFirst {v : Value} {a : WA} {w : World} {A : Option Addr} {c : Nat} {l : List Int} (h : IsWA w w.heap.size v a) (hl : Sl w w.heap.size 1 encI A l) (hT : PowT w) :
  Calls Tryd.prog 8 #[v, .slice A l.length c] w (Ret fun v w' => v = .bool true ∧ Below w.heap.size w w') := by
 have hWA := hide h
 obtain ⟨A1, c1, A2, c2, A3, c3, rfl, h1, h2, h3, h4⟩ := h
 obtain ⟨w1, hw1, hb1, hB1, hk1⟩ := box_blk w #[.int .i64 a.letters, .int .i64 a.states, .slice A1 a.start.length c1, .slice A2 a.accept.length c2, .slice A3 a.edges.length c3] 25
 have hs1 := hb1.size
 have hc1 := hB1.cell
 have hb1H := hide hb1
 have hB1H := hide hB1
 have hTH := hide hT
 have hlH := hide hl
 have hln := hl.1
 have hbig := Big_any (hWA.out.keep (w' := w1) (fun p hp => hb1.cell hp) hs1)
 obtain ⟨n, hn⟩ : ∃ n, n = l.length := ⟨_, rfl⟩
 have hnH := hide hn
 rw [← hn] at hln ⊢
 clear h1 h2 h3 h4 hk1 hb1 hB1 hT hl hn
 go_enter Tryd.func8, Tryd.ntmps8
 go_wp2_with fail
 refine Calls.ret hbig ?_
 rintro r w2 ⟨rfl, hb2⟩
 have hb02 := hide (hb1H.out.trans (hb2.mono hs1))
 have hB2 := hide (hB1H.out.below hb2)
 have hc2 := hB2.out.cell
 have hkn2 := known_any (hTH.out.below hb02.out)
 clear hbig hb2 hc1
 cases hbg : a.big with
 | true =>
  go_wp2_with fail
  refine Calls.ret hkn2 ?_
  rintro r w3 ⟨rfl, hb3⟩
  have hb03 := hide (hb02.out.trans (hb3.mono hb02.out.size))
  clear hb3 hkn2
  go_wp2_with fail
  go_ret
  exact ⟨rfl, hb03.out⟩
 | false =>
  obtain ⟨g1, g2, g3⟩ := WA.big_not hbg
  clear hbg
  by_cases hlen : 100 < n
  ·go_wp2_with fail
   refine Calls.ret hkn2 ?_
   rintro r w3 ⟨rfl, hb3⟩
   have hb03 := hide (hb02.out.trans (hb3.mono hb02.out.size))
   clear hb3 hkn2
   go_wp2_with fail
   go_ret
   exact ⟨rfl, hb03.out⟩
  ·clear hkn2
   have hsh := Shortest_any (hWA.out.keep (w' := w2) (fun p hp => hb02.out.cell hp) hb02.out.size) (by omega) (by omega)
   go_wp2_with fail
   refine Calls.ret hsh ?_
   rintro r w3 ⟨hb3, hcase⟩
   have hb03 := hide (hb02.out.trans (hb3.mono hb02.out.size))
   have hB3 := hide (hB2.out.below (hb3.mono (Nat.le_refl _)))
   have hc3 := hB3.out.cell
   have hv1 := Accepts_any (c := c) (hWA.out.keep (w' := w3) (fun p hp => hb03.out.cell hp) hb03.out.size) (by omega) (by omega) (hlH.out.keep (w' := w3) (fun p hp => hb03.out.cell hp) (Nat.le_refl _)) hb03.out.size
   rw [← hnH.out] at hv1
   clear hsh hb3 hc2
   unfold WA.accR at hv1
   rcases hcase with ⟨hok, rfl⟩ | ⟨hok, far, hF, ⟨hno, rfl⟩ | ⟨u, A4, c4, hu, rfl, hS⟩⟩
   ·generalize a.acc l = x1 at *
    generalize errno (a.accV l) = e1 at *
    clear hok
    go_wp2_with fail
    refine Calls.ret hv1 ?_
    rintro r w4 ⟨rfl, hb4⟩
    have hb04 := hide (hb03.out.trans (hb4.mono hb03.out.size))
    have hkn := known_any (hTH.out.below hb04.out)
    clear hv1 hb4
    go_wp2_with fail
    refine Calls.ret hkn ?_
    rintro r w5 ⟨rfl, hb5⟩
    have hb05 := hide (hb04.out.trans (hb5.mono hb04.out.size))
    clear hkn hb5
    go_wp2_with fail
    go_ret
    exact ⟨rfl, hb05.out⟩
   ·have hSh := NF.shortR_ok hF (WA.nf_ok (WA.ok_iff.1 hok).2)
    rcases a.acc_cases hok l with ⟨k1, k2⟩ | ⟨v, -, hv, k1, k2⟩
    ·rw [k1, k2, show errno false = 1 from rfl] at hv1
     clear hok hF hno hSh k1 k2
     go_wp2_with fail
     refine Calls.ret hv1 ?_
     rintro r w4 ⟨rfl, hb4⟩
     have hb04 := hide (hb03.out.trans (hb4.mono hb03.out.size))
     have hkn := known_any (hTH.out.below hb04.out)
     clear hv1 hb4
     go_wp2_with fail
     refine Calls.ret hkn ?_
     rintro r w5 ⟨rfl, hb5⟩
     have hb05 := hide (hb04.out.trans (hb5.mono hb04.out.size))
     clear hkn hb5
     go_wp2_with fail
     go_ret
     exact ⟨rfl, hb05.out⟩
    ·have hf : a.lang v = false := hSh.non hno v hv
     rw [k1, k2, hf, show errno true = 0 from rfl] at hv1
     clear hok hF hno hSh k1 k2 hf hv
     go_wp2_with fail
     refine Calls.ret hv1 ?_
     rintro r w4 ⟨rfl, hb4⟩
     have hb04 := hide (hb03.out.trans (hb4.mono hb03.out.size))
     have hkn := known_any (hTH.out.below hb04.out)
     clear hv1 hb4
     go_wp2_with fail
     refine Calls.ret hkn ?_
     rintro r w5 ⟨rfl, hb5⟩
     have hb05 := hide (hb04.out.trans (hb5.mono hb04.out.size))
     clear hkn hb5
     go_wp2_with fail
     go_ret
     exact ⟨rfl, hb05.out⟩
   ·obtain ⟨s1, s2, s3⟩ := (NF.shortR_ok hF (WA.nf_ok (WA.ok_iff.1 hok).2)).som u hu
    have hul : u.length ≤ 9223372036854775807 := by have := hS.1; simpa [natL] using this
    have hSH := hide hS
    obtain ⟨m, hm⟩ : ∃ m, m = u.length := ⟨_, rfl⟩
    have hmH := hide hm
    obtain ⟨y1, y2⟩ := WA.acc_word hok (u := u) s1
    rw [show a.lang u = true from s2] at y2
    rw [← hm] at hul ⊢
    rcases a.acc_cases hok l with ⟨k1, k2⟩ | ⟨v, hlv, hv, k1, k2⟩
    ·rw [k1, k2, show errno false = 1 from rfl] at hv1
     clear hok hF hu hS s1 s2 s3 y1 y2 k1 k2 hm
     go_wp2_with fail
     refine Calls.ret hv1 ?_
     rintro r w4 ⟨rfl, hb4⟩
     have hb04 := hide (hb03.out.trans (hb4.mono hb03.out.size))
     have hkn := known_any (hTH.out.below hb04.out)
     clear hv1 hb4
     go_wp2_with fail
     refine Calls.ret hkn ?_
     rintro r w5 ⟨rfl, hb5⟩
     have hb05 := hide (hb04.out.trans (hb5.mono hb04.out.size))
     clear hkn hb5
     go_wp2_with fail
     go_ret
     exact ⟨rfl, hb05.out⟩
    ·have hfin : Hid (a.lang v = true → m < n ∨ m = n ∧ cmpI (natL u) l ≤ 0) := fun hv1 => by
      have e : n = v.length := by rw [hnH.out, hlv]; simp [natL]
      rcases s3 v hv hv1 with k | ⟨k, kl⟩
      ·exact .inl (by rw [hmH.out, e]; exact k)
      ·refine .inr ⟨by rw [hmH.out, e]; exact k, ?_⟩
       rw [hlv]
       exact cmpI_lex k kl
     rw [k1, k2, show errno true = 0 from rfl] at hv1
     have y1H := hide y1
     have y2H := hide y2
     clear hok hF hu hS s1 s2 s3 y1 y2 k1 k2 hm hlv hv
     obtain ⟨y, hy⟩ : ∃ y, y = a.lang v := ⟨_, rfl⟩
     rw [← hy] at hv1 hfin
     have hfinH := hfin
     clear hy hfin
     go_wp2_with fail
     refine Calls.ret hv1 ?_
     rintro r w4 ⟨rfl, hb4⟩
     have hb04 := hide (hb03.out.trans (hb4.mono hb03.out.size))
     have hc4 := (hB3.out.below (hb4.mono (Nat.le_refl _))).cell
     have hS4 := hide (hSH.out.keep (w' := w4) (fun p hp => hb4.cell hp) hb4.size)
     have hv2 := Accepts_any (c := c4) (hWA.out.keep (w' := w4) (fun p hp => hb04.out.cell hp) hb04.out.size) (by omega) (by omega) hS4.out (Nat.le_refl _)
     rw [show (natL u).length = m by rw [hmH.out]; simp [natL]] at hv2
     unfold WA.accR at hv2
     rw [y1H.out, y2H.out, show errno true = 0 from rfl] at hv2
     clear hv1 hb4 hc3
     go_wp2_with fail
     refine Calls.ret hv2 ?_
     rintro r w5 ⟨rfl, hb5⟩
     have hb05 := hide (hb04.out.trans (hb5.mono hb04.out.size))
     have hS5 := hide (hS4.out.keep (w' := w5) (fun p hp => hb5.cell hp) hb5.size)
     clear hv2 hb5
     cases y with
     | false =>
      have hkn := known_any (hTH.out.below hb05.out)
      go_wp2_with fail
      refine Calls.ret hkn ?_
      rintro r w6 ⟨rfl, hb6⟩
      have hb06 := hide (hb05.out.trans (hb6.mono hb05.out.size))
      clear hkn hb6
      go_wp2_with fail
      go_ret
      exact ⟨rfl, hb06.out⟩
     | true =>
      rcases hfinH.out rfl with hlt | ⟨rfl, hcmp⟩
      ·have hkn := known_any (hTH.out.below hb05.out)
       go_wp2_with fail
       refine Calls.ret hkn ?_
       rintro r w6 ⟨rfl, hb6⟩
       have hb06 := hide (hb05.out.trans (hb6.mono hb05.out.size))
       clear hkn hb6
       go_wp2_with fail
       go_ret
       exact ⟨rfl, hb06.out⟩
      ·have hcm := compareInts_any (c1 := c4) (c2 := c) hS5.out (hlH.out.keep (w' := w5) (fun p hp => hb05.out.cell hp) (Nat.le_refl _)) (Nat.le_refl _) hb05.out.size
       rw [show (natL u).length = m by rw [hmH.out]; simp [natL], ← hnH.out] at hcm
       generalize cmpI (natL u) l = z at hcm hcmp
       go_wp2_with fail
       refine Calls.ret hcm ?_
       rintro r w6 ⟨rfl, hb6⟩
       have hb06 := hide (hb05.out.trans (hb6.mono hb05.out.size))
       have hkn := known_any (hTH.out.below hb06.out)
       clear hcm hb6
       go_wp2_with fail
       refine Calls.ret hkn ?_
       rintro r w7 ⟨rfl, hb7⟩
       have hb07 := hide (hb06.out.trans (hb7.mono hb06.out.size))
       clear hkn hb7
       go_wp2_with fail
       go_ret
       exact ⟨rfl, hb07.out⟩
end Go.Proofs.YtpmceapjnnkhjaaDoor
namespace Go.Proofs.YtpmceapjnnkhjaaDoor
open Go.RowKit Go.ChangeShapes Go.WideShapes Go.Deep Go.ChangeAt Go.WideMaps Go.WideElems
theorem wordShortestFirst_lifted (os : Os) (started : os.Started) (H : Type) (enc : TypeId × Value → H) :
  ReturnsInHanded {} Tryd.checked os 8 .any (fun w args => (Rows.wordShortestFirstSpec.pre enc Tryd.prog Tryd.f8 Rows.wordShortestFirstRow.domain false w args ∧ laidMetH Tryd.prog Rows.wordShortestFirstRow.laid w) ∧ sizedMet enc Tryd.prog Tryd.f8 (OpenSpec.ofChange Rows.wordShortestFirstSpec) false w args)
   (Rows.wordShortestFirstSpec.post enc Tryd.prog Tryd.f8 false true false false) := by
 refine returnsInHanded_of_change_and (C := Tryd.checked) (X := fun w _ => laidMetH Tryd.prog Rows.wordShortestFirstRow.laid w) (fun _ _ _ hh h => h.of_heap hh) knobF started (by kernel_rfl) Tryd.func8
  (ChangeSpec.witness_shaped (enc := enc) (C := Tryd.checked) (os := os) (X := fun w _ => laidMetH Tryd.prog Rows.wordShortestFirstRow.laid w) false (World.doorLaid Tryd.prog 400 os) #[.agg #[.int .i64 0, .int .i64 0, .slice none 0 0, .slice none 0 0, .slice none 0 0], .slice none 0 0] 8 rfl (World.shaped_of_RefB (by kernel_rfl) (by kernel_rfl)) (by kernel_rfl) (by kernel_rfl) (by kernel_rfl) (door_metF os _)) ?_
 intro W base args ds gs before hval0 hW _ _ hL _
 have hval : ∀ (j : Nat) t v, Tryd.f8.params[j]? = some t → args[j]? = some v → Value.okWide Tryd.prog W .any base t v := hval0
 have hW' := hW
 obtain ⟨p, q, hA0, hV, rfl, hfz, hnd⟩ := hW
 have hA : DataW.TrodAll enc Tryd.prog W 0 (fun _ => true) true Tryd.f8.params.toList args.toList ds p := hA0
 rw [Tryd.params8] at hA hval
 obtain ⟨v0, v1, d0, d1, p0, p1, rfl, rfl, rfl, h0, h1⟩ := trodAll_two hA
 obtain ⟨rfl, rfl⟩ := trodVars_none hV
 obtain ⟨a0, g0⟩ := wa_in (hval 0 25 v0 rfl rfl) h0
 obtain ⟨A1, c1, l1, rfl, g1, k1⟩ := ints_in (hval 1 22 v1 rfl rfl) h1
 simp only [List.append_nil] at hW'
 have hlt := hW'.lt
 refine Calls.ret (lawFirst g0 g1 (pow_of hL)) fun v W' ⟨hv, hb⟩ => ?_
 subst hv
 exact ⟨_, rfl, law_postF rfl hW' (fun _ _ _ => trodAll_mk1 (shut_bool Tryd.underlying4 _)) (fun sp hsp => by
  rw [Tryd.params8]
  exact trodAll_mk2 (WideElems.Trod_stays laid_outF (by kernel_rfl) (of_decide_eq_true (by kernel_rfl)) h0 (fun x hx => hb.same (hlt x (List.mem_append_left _ hx))) (fun x hx => hsp x (List.mem_append_left _ hx))) (WideElems.Trod_stays laid_outF (by kernel_rfl) (of_decide_eq_true (by kernel_rfl)) h1 (fun x hx => hb.same (hlt x (List.mem_append_right _ hx))) (fun x hx => hsp x (List.mem_append_right _ hx)))) rfl hb (ok_one (by kernel_rfl) rfl (okWide_bool_mk Tryd.underlying4 _))⟩
theorem wordShortestFirst_facts : joinedFacts Tryd.checked.prog 8 Tryd.f8 Rows.wordShortestFirstSpec Rows.wordShortestFirstRow = true :=
 joined_of (by kernel_rfl) seat_a2 seat_a3 (by kernel_rfl) (by kernel_rfl) (by kernel_rfl) seat_a7 (by kernel_rfl) seat_a9 (by kernel_rfl) (by kernel_rfl) (by kernel_rfl) (by kernel_rfl) (by kernel_rfl) (by kernel_rfl) (by kernel_rfl) (by kernel_rfl) (by kernel_rfl) (by kernel_rfl) (by kernel_rfl) (by kernel_rfl) (by kernel_rfl) seat_d5 (by kernel_rfl) seat_d7 seat_d8 seat_d9 seat_e1 (by kernel_rfl) (by kernel_rfl) (by kernel_rfl) (by kernel_rfl)
theorem wordShortestFirst_row : Rows.WordShortestFirstSaid :=
 OpenClaim.holds_of_wide 8 Tryd.f8 rfl rfl rfl rfl rfl rfl rfl ⟨rfl, rfl, rfl, rfl, rfl⟩ rfl rfl rfl rfl rfl (by kernel_rfl) Tryd.func8 wordShortestFirst_facts
  (of_decide_eq_true (by kernel_rfl)) (by unfold Func.isWrapper; first | (rw [if_pos (by decide +kernel)]; kernel_rfl) | (rw [if_neg (by decide +kernel)]; exact ⟨rfl, rfl⟩))
  (fun os started H enc _ => wordShortestFirst_lifted os started H enc)
end Go.Proofs.YtpmceapjnnkhjaaDoor
namespace Go.Proofs.YtpmceapjnnkhjaaDoor
open Go
theorem wordShortestFirst_goes : false = Rows.wordShortestFirstRow.goesBy Tryd.checked.prog := by kernel_rfl
theorem wordShortestFirst_card : Rows.WordShortestFirstCardSaid :=
 Claim7.holds_tied_plain_at .later [] [.data, .data, .data] true (true, "6daf4f740c5c153ba95715f286d9de89d8df7fc8863bab305309aec69a24d890") true
  wordShortestFirst_row (fun _ h => by cases h) (by kernel_rfl) (fun _ h => by cases h) wordShortestFirst_row_tie rfl ⟨rfl, rfl⟩ seat_main rfl
  (fun f fn hf hfn => by
   obtain rfl : f = 8 := Option.some.inj ((show Tryd.prog.funcNamed "familycheck/familychecklaw06.WordShortestFirst" = some 8 by kernel_rfl).symm.trans hf) |>.symm
   obtain rfl : fn = Tryd.f8 := (Option.some.inj (Tryd.func8.symm.trans hfn)).symm
   exact ⟨seat_looks, fun j t ht => by
    rw [Tryd.params8] at ht
    have hm : t ∈ [25, 22] := by simpa using Array.mem_of_getElem? ht
    have hall : ([25, 22].all fun u => !Tryd.prog.wantsStandIn u) = true := by kernel_rfl
    exact (show Tryd.prog.wantsStandIn t = false by simpa using List.all_eq_true.1 hall t hm)⟩)
  wordShortestFirst_goes
#print axioms wordShortestFirst_card
end Go.Proofs.YtpmceapjnnkhjaaDoor
