/-
  Union and Intersect return the canonical automata that the document names, with the same errors, for all pairs of automata. The tied card.
-/
import Derived.Test.YtakpmdmjbgipiaaGreatDoorTie
import Derived.Test.YtakpmdmjbgipiaaGreatDoorCards
import Derived.Test.YtakpmdmjbgipiaaGreatDoorPA
import Derived.Test.YtakpmdmjbgipiaaGreatDoorJQ
import Derived.Test.YtakpmdmjbgipiaaGreatDoorPR
import Derived.Test.YtakpmdmjbgipiaaGreatDoorPO
import Derived.Test.YtakpmdmjbgipiaaGreatDoorPQ
set_option maxHeartbeats 16000000
set_option maxRecDepth 100000
set_option linter.unusedVariables false
set_option linter.unusedSimpArgs false
namespace Go.Proofs.YtakpmdmjbgipiaaGreatDoor
open Go.RowKit Go.ChangeShapes Go.WideShapes Go.Deep Go.ChangeAt Go.WideMaps Go.WideElems
theorem wordJoins_lifted (os : Os) (started : os.Started) (H : Type) (enc : TypeId × Value → H) :
  ReturnsInHanded {} Tryz.checked os 4 .any (fun w args => (Rows.wordJoinsSpec.pre enc Tryz.prog Tryz.f4 Rows.wordJoinsRow.domain false w args ∧ laidMetH Tryz.prog Rows.wordJoinsRow.laid w) ∧ sizedMet enc Tryz.prog Tryz.f4 (OpenSpec.ofChange Rows.wordJoinsSpec) false w args)
   (Rows.wordJoinsSpec.post enc Tryz.prog Tryz.f4 false true false false) := by
 refine returnsInHanded_of_change_and (C := Tryz.checked) (X := fun w _ => laidMetH Tryz.prog Rows.wordJoinsRow.laid w) (fun _ _ _ hh h => h.of_heap hh) knobF started (by kernel_rfl) Tryz.func4
  (ChangeSpec.witness_shaped (enc := enc) (C := Tryz.checked) (os := os) (X := fun w _ => laidMetH Tryz.prog Rows.wordJoinsRow.laid w) false (World.doorLaid Tryz.prog 400 os) #[.agg #[.int .i64 0, .int .i64 0, .slice none 0 0, .slice none 0 0, .slice none 0 0], .agg #[.int .i64 0, .int .i64 0, .slice none 0 0, .slice none 0 0, .slice none 0 0]] 8 rfl (World.shaped_of_RefB (by kernel_rfl) (by kernel_rfl)) (by kernel_rfl) (by kernel_rfl) (by kernel_rfl) (door_metF os _)) ?_
 intro W base args ds gs before hval0 hW _ _ hL _
 have hval : ∀ (j : Nat) t v, Tryz.f4.params[j]? = some t → args[j]? = some v → Value.okWide Tryz.prog W .any base t v := hval0
 have hW' := hW
 obtain ⟨p, q, hA0, hV, rfl, hfz, hnd⟩ := hW
 have hA : DataW.TrodAll enc Tryz.prog W 0 (fun _ => true) true Tryz.f4.params.toList args.toList ds p := hA0
 rw [Tryz.params4] at hA hval
 obtain ⟨v0, v1, d0, d1, p0, p1, rfl, rfl, rfl, h0, h1⟩ := trodAll_two hA
 obtain ⟨rfl, rfl⟩ := trodVars_none hV
 obtain ⟨a0, g0⟩ := wa_in (hval 0 28 v0 rfl rfl) h0
 obtain ⟨a1, g1⟩ := wa_in (hval 1 28 v1 rfl rfl) h1
 simp only [List.append_nil] at hW'
 have hlt := hW'.lt
 refine Calls.ret (lawJoins g0 g1 (pow_of hL)) fun v W' ⟨hv, hb⟩ => ?_
 subst hv
 exact ⟨_, rfl, law_postF rfl hW' (fun _ _ _ => trodAll_mk1 (shut_bool Tryz.underlying4 _)) (fun sp hsp => by
  rw [Tryz.params4]
  exact trodAll_mk2 (WideElems.Trod_stays laid_outF (by kernel_rfl) (of_decide_eq_true (by kernel_rfl)) h0 (fun x hx => hb.same (hlt x (List.mem_append_left _ hx))) (fun x hx => hsp x (List.mem_append_left _ hx))) (WideElems.Trod_stays laid_outF (by kernel_rfl) (of_decide_eq_true (by kernel_rfl)) h1 (fun x hx => hb.same (hlt x (List.mem_append_right _ hx))) (fun x hx => hsp x (List.mem_append_right _ hx)))) rfl hb (ok_one (by kernel_rfl) rfl (okWide_bool_mk Tryz.underlying4 _))⟩
theorem wordJoins_facts : joinedFacts Tryz.checked.prog 4 Tryz.f4 Rows.wordJoinsSpec Rows.wordJoinsRow = true :=
 joined_of (by kernel_rfl) seat_a2 seat_a3 (by kernel_rfl) (by kernel_rfl) (by kernel_rfl) seat_a7 (by kernel_rfl) seat_a9 (by kernel_rfl) (by kernel_rfl) (by kernel_rfl) (by kernel_rfl) (by kernel_rfl) (by kernel_rfl) (by kernel_rfl) (by kernel_rfl) (by kernel_rfl) (by kernel_rfl) (by kernel_rfl) (by kernel_rfl) (by kernel_rfl) seat_d5 (by kernel_rfl) seat_d7 seat_d8 seat_d9 seat_e1 (by kernel_rfl) (by kernel_rfl) (by kernel_rfl) (by kernel_rfl)
theorem wordJoins_row : Rows.WordJoinsSaid :=
 OpenClaim.holds_of_wide 4 Tryz.f4 rfl rfl rfl rfl rfl rfl rfl ⟨rfl, rfl, rfl, rfl, rfl⟩ rfl rfl rfl rfl rfl (by kernel_rfl) Tryz.func4 wordJoins_facts
  (of_decide_eq_true (by kernel_rfl)) (by unfold Func.isWrapper; first | (rw [if_pos (by decide +kernel)]; kernel_rfl) | (rw [if_neg (by decide +kernel)]; exact ⟨rfl, rfl⟩))
  (fun os started H enc _ => wordJoins_lifted os started H enc)
end Go.Proofs.YtakpmdmjbgipiaaGreatDoor
namespace Go.Proofs.YtakpmdmjbgipiaaGreatDoor
open Go
theorem wordJoins_goes : false = Rows.wordJoinsRow.goesBy Tryz.checked.prog := by kernel_rfl
theorem wordJoins_card : Rows.WordJoinsCardSaid :=
 Claim7.holds_tied_plain_at .later [] [.data, .data, .data] true (true, "fc6021f947ae280e8b1573e9bc9cdcd8ed585aaad0a8dddccec74b8c3798ff21") true
  wordJoins_row (fun _ h => by cases h) (by kernel_rfl) (fun _ h => by cases h) wordJoins_row_tie rfl ⟨rfl, rfl⟩ seat_main rfl
  (fun f fn hf hfn => by
   obtain rfl : f = 4 := Option.some.inj ((show Tryz.prog.funcNamed "familycheck/familychecklaw06.WordJoins" = some 4 by kernel_rfl).symm.trans hf) |>.symm
   obtain rfl : fn = Tryz.f4 := (Option.some.inj (Tryz.func4.symm.trans hfn)).symm
   exact ⟨seat_looks, fun j t ht => by
    rw [Tryz.params4] at ht
    have hm : t ∈ [28, 28] := by simpa using Array.mem_of_getElem? ht
    have hall : ([28, 28].all fun u => !Tryz.prog.wantsStandIn u) = true := by kernel_rfl
    exact (show Tryz.prog.wantsStandIn t = false by simpa using List.all_eq_true.1 hall t hm)⟩)
  wordJoins_goes
#print axioms wordJoins_card
end Go.Proofs.YtakpmdmjbgipiaaGreatDoor
