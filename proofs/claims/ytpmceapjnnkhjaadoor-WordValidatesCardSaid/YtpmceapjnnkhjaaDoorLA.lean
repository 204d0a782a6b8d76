/-
  WordValidates: which automata are valid. The tied card.
-/
import Derived.Test.YtpmceapjnnkhjaaDoorTie
import Derived.Test.YtpmceapjnnkhjaaDoorCards
import Derived.Test.YtpmceapjnnkhjaaDoorPA
import Derived.Test.YtpmceapjnnkhjaaDoorPN
import Derived.Test.YtpmceapjnnkhjaaDoorPR
import Derived.Test.YtpmceapjnnkhjaaDoorPO
import Derived.Test.YtpmceapjnnkhjaaDoorPQ
set_option maxHeartbeats 16000000
set_option maxRecDepth 100000
set_option linter.unusedVariables false
set_option linter.unusedSimpArgs false
namespace Go.Proofs.YtpmceapjnnkhjaaDoor
open Go.RowKit
set_option maxHeartbeats 16000000
set_option maxRecDepth 100000
theorem lawValidates {v : Value} {a : WA} {w : World} (h : IsWA w w.heap.size v a) (hT : PowT w) :
  Calls Tryd.prog 3 #[v] w (Ret fun v w' => v = .bool true ∧ Below w.heap.size w w') := by
 have hWA := hide h
 obtain ⟨A1, c1, A2, c2, A3, c3, rfl, h1, h2, h3, h4⟩ := h
 obtain ⟨w1, hw1, hb1, hB1, hk1⟩ := box_blk w #[.int .i64 a.letters, .int .i64 a.states, .slice A1 a.start.length c1, .slice A2 a.accept.length c2, .slice A3 a.edges.length c3] 25
 have hs1 := hb1.size
 have hc1 := hB1.cell
 have hb1H := hide hb1
 have hB1H := hide hB1
 have hTH := hide hT
 have hbig := Big_any (hWA.out.keep (w' := w1) (fun p hp => hb1.cell hp) hs1)
 clear h1 h2 h3 h4 hk1 hb1 hB1 hT
 go_enter Tryd.func3, Tryd.ntmps3
 go_wp2_with fail
 refine Calls.ret hbig ?_
 rintro r w2 ⟨rfl, hb2⟩
 have hb02 := hide (hb1H.out.trans (hb2.mono hs1))
 have hc2 := (hB1H.out.below hb2).cell
 clear hbig hb2 hc1
 cases hbg : a.big with
 | true =>
  have hkn := known_any (hTH.out.below hb02.out)
  go_wp2_with fail
  refine Calls.ret hkn ?_
  rintro r w3 ⟨rfl, hb3⟩
  have hb03 := hide (hb02.out.trans (hb3.mono hb02.out.size))
  clear hb3 hkn
  go_wp2_with fail
  go_ret
  exact ⟨rfl, hb03.out⟩
 | false =>
  clear hbg
  go_wp2_with fail
  refine Reg.cC [0, 1, 0, 7, 15, 31, 63, 127, 255] [0, 2, 1, 3, 4, 5, 6, 7, 8] ?_
  refine Reg.rest_walk' [0, 2] [1, 3, 4, 5, 6, 7, 8] rfl (by kernel_rfl) ?_
  intro Qf hQf
  go_wp2_with fail
  first | refine hQf _ _ ?_ | skip
  try clear hQf
  refine Reg.rest_act' 1 [3, 4, 5, 6, 7, 8] [2] rfl (by kernel_rfl) ?_
  intro Qf hQf
  simp only [gT, gS, gZ]
  have hb02d : Below w.heap.size w w2.drew := hb02.out.trans ((drewB w2).mono hb02.out.size)
  have hv1 := validate_any (hWA.out.keep (w' := w2.drew) (fun p hp => hb02d.cell hp) hb02d.size)
  have hb2d := hide hb02d
  clear hb02d
  go_wp2_with fail
  refine Calls.ret hv1 ?_
  rintro r w3 ⟨rfl, hb3⟩
  have hb03 := hb2d.out.trans (hb3.mono hb2d.out.size)
  have hv2 := refValidate_any (hWA.out.keep (w' := w3) (fun p hp => hb03.cell hp) hb03.size)
  have hb03H := hide hb03
  clear hv1 hb03
  go_wp2_with fail
  first | refine hQf _ _ ⟨Reg.same_below hb3 [2] rfl, ?_⟩ | refine ⟨Reg.same_below hb3 [2] rfl, ?_⟩
  try clear hQf
  refine Reg.rest_act' 3 [4, 5, 6, 7, 8] [] rfl (by kernel_rfl) ?_
  intro Qf hQf
  simp only [gT, gS, gZ]
  clear hb3
  go_wp2_with fail
  refine Calls.ret hv2 ?_
  rintro r w4 ⟨rfl, hb4⟩
  have hb04 := hb03H.out.trans (hb4.mono hb03H.out.size)
  have hkn := known_any (hTH.out.below hb04)
  have hb04H := hide hb04
  clear hv2 hb04 hb4
  generalize errno a.ok = er at *
  have heq : (er == er) = true := by simp
  go_wp2_with fail
  first | refine hQf _ _ ⟨Reg.nm, ?_⟩ | refine ⟨Reg.nm, ?_⟩
  try clear hQf
  refine Reg.rest_walk' [4, 5] [6, 7, 8] rfl (by kernel_rfl) ?_
  intro Qf hQf
  go_wp2_with fail
  first | refine hQf _ _ ?_ | skip
  try clear hQf
  refine Reg.rest_act' 6 [7, 8] [] rfl (by kernel_rfl) ?_
  intro Qf hQf
  simp only [gT, gS, gZ]
  go_wp2_with fail
  refine Calls.ret hkn ?_
  rintro r w5 ⟨rfl, hb5⟩
  have hb05 := hide (hb04H.out.trans (hb5.mono hb04H.out.size))
  clear hkn hb5
  go_wp2_with fail
  first | refine hQf _ _ ⟨Reg.nm, ?_⟩ | refine ⟨Reg.nm, ?_⟩
  try clear hQf
  refine Reg.rest_walk' [7, 8] [] rfl (by kernel_rfl) ?_
  intro Qf hQf
  go_wp2_with fail
  first | refine hQf _ _ ?_ | skip
  try clear hQf
  refine Reg.rest_end ?_
  go_wp2_with fail
  go_ret
  exact ⟨rfl, hb05.out⟩
end Go.Proofs.YtpmceapjnnkhjaaDoor
namespace Go.Proofs.YtpmceapjnnkhjaaDoor
open Go.RowKit Go.ChangeShapes Go.WideShapes Go.Deep Go.ChangeAt Go.WideMaps Go.WideElems
theorem wordValidates_lifted (os : Os) (started : os.Started) (H : Type) (enc : TypeId × Value → H) :
  ReturnsInHanded {} Tryd.checked os 3 .any (fun w args => (Rows.wordValidatesSpec.pre enc Tryd.prog Tryd.f3 Rows.wordValidatesRow.domain false w args ∧ laidMetH Tryd.prog Rows.wordValidatesRow.laid w) ∧ sizedMet enc Tryd.prog Tryd.f3 (OpenSpec.ofChange Rows.wordValidatesSpec) false w args)
   (Rows.wordValidatesSpec.post enc Tryd.prog Tryd.f3 false true false false) := by
 refine returnsInHanded_of_change_and (C := Tryd.checked) (X := fun w _ => laidMetH Tryd.prog Rows.wordValidatesRow.laid w) (fun _ _ _ hh h => h.of_heap hh) knobF started (by kernel_rfl) Tryd.func3
  (ChangeSpec.witness_shaped (enc := enc) (C := Tryd.checked) (os := os) (X := fun w _ => laidMetH Tryd.prog Rows.wordValidatesRow.laid w) false (World.doorLaid Tryd.prog 400 os) #[.agg #[.int .i64 0, .int .i64 0, .slice none 0 0, .slice none 0 0, .slice none 0 0]] 8 rfl (World.shaped_of_RefB (by kernel_rfl) (by kernel_rfl)) (by kernel_rfl) (by kernel_rfl) (by kernel_rfl) (door_metF os _)) ?_
 intro W base args ds gs before hval0 hW _ _ hL _
 have hval : ∀ (j : Nat) t v, Tryd.f3.params[j]? = some t → args[j]? = some v → Value.okWide Tryd.prog W .any base t v := hval0
 have hW' := hW
 obtain ⟨p, q, hA0, hV, rfl, hfz, hnd⟩ := hW
 have hA : DataW.TrodAll enc Tryd.prog W 0 (fun _ => true) true Tryd.f3.params.toList args.toList ds p := hA0
 rw [Tryd.params3] at hA hval
 obtain ⟨v0, d0, rfl, rfl, h0⟩ := trodAll_one hA
 obtain ⟨rfl, rfl⟩ := trodVars_none hV
 obtain ⟨a0, g0⟩ := wa_in (hval 0 25 v0 rfl rfl) h0
 simp only [List.append_nil] at hW'
 have hlt := hW'.lt
 refine Calls.ret (lawValidates g0 (pow_of hL)) fun v W' ⟨hv, hb⟩ => ?_
 subst hv
 exact ⟨_, rfl, law_postF rfl hW' (fun _ _ _ => trodAll_mk1 (shut_bool Tryd.underlying4 _)) (fun sp hsp => by
  rw [Tryd.params3]
  exact trodAll_mk1 (WideElems.Trod_stays laid_outF (by kernel_rfl) (of_decide_eq_true (by kernel_rfl)) h0 (fun x hx => hb.same (hlt x (hx))) (fun x hx => hsp x (hx)))) rfl hb (ok_one (by kernel_rfl) rfl (okWide_bool_mk Tryd.underlying4 _))⟩
theorem wordValidates_facts : joinedFacts Tryd.checked.prog 3 Tryd.f3 Rows.wordValidatesSpec Rows.wordValidatesRow = true :=
 joined_of (by kernel_rfl) seat_a2 seat_a3 (by kernel_rfl) (by kernel_rfl) (by kernel_rfl) seat_a7 (by kernel_rfl) seat_a9 (by kernel_rfl) (by kernel_rfl) (by kernel_rfl) (by kernel_rfl) (by kernel_rfl) (by kernel_rfl) (by kernel_rfl) (by kernel_rfl) (by kernel_rfl) (by kernel_rfl) (by kernel_rfl) (by kernel_rfl) (by kernel_rfl) seat_d5 (by kernel_rfl) seat_d7 seat_d8 seat_d9 seat_e1 (by kernel_rfl) (by kernel_rfl) (by kernel_rfl) (by kernel_rfl)
theorem wordValidates_row : Rows.WordValidatesSaid :=
 OpenClaim.holds_of_wide 3 Tryd.f3 rfl rfl rfl rfl rfl rfl rfl ⟨rfl, rfl, rfl, rfl, rfl⟩ rfl rfl rfl rfl rfl (by kernel_rfl) Tryd.func3 wordValidates_facts
  (of_decide_eq_true (by kernel_rfl)) (by unfold Func.isWrapper; first | (rw [if_pos (by decide +kernel)]; kernel_rfl) | (rw [if_neg (by decide +kernel)]; exact ⟨rfl, rfl⟩))
  (fun os started H enc _ => wordValidates_lifted os started H enc)
end Go.Proofs.YtpmceapjnnkhjaaDoor
namespace Go.Proofs.YtpmceapjnnkhjaaDoor
open Go
theorem wordValidates_goes : false = Rows.wordValidatesRow.goesBy Tryd.checked.prog := by kernel_rfl
theorem wordValidates_card : Rows.WordValidatesCardSaid :=
 Claim7.holds_tied_plain_at .later [] [.data, .data, .data] true (true, "6daf4f740c5c153ba95715f286d9de89d8df7fc8863bab305309aec69a24d890") true
  wordValidates_row (fun _ h => by cases h) (by kernel_rfl) (fun _ h => by cases h) wordValidates_row_tie rfl ⟨rfl, rfl⟩ seat_main rfl
  (fun f fn hf hfn => by
   obtain rfl : f = 3 := Option.some.inj ((show Tryd.prog.funcNamed "familycheck/familychecklaw06.WordValidates" = some 3 by kernel_rfl).symm.trans hf) |>.symm
   obtain rfl : fn = Tryd.f3 := (Option.some.inj (Tryd.func3.symm.trans hfn)).symm
   exact ⟨seat_looks, fun j t ht => by
    rw [Tryd.params3] at ht
    have hm : t ∈ [25] := by simpa using Array.mem_of_getElem? ht
    have hall : ([25].all fun u => !Tryd.prog.wantsStandIn u) = true := by kernel_rfl
    exact (show Tryd.prog.wantsStandIn t = false by simpa using List.all_eq_true.1 hall t hm)⟩)
  wordValidates_goes
#print axioms wordValidates_card
end Go.Proofs.YtpmceapjnnkhjaaDoor
