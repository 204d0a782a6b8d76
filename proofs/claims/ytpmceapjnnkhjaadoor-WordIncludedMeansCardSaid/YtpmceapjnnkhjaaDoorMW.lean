/-
  Which languages lie in which, for all automata, and the word that tells them apart. The tied card.
-/
import Derived.Test.YtpmceapjnnkhjaaDoorTie
import Derived.Test.YtpmceapjnnkhjaaDoorCards
import Derived.Test.YtpmceapjnnkhjaaDoorPA
import Derived.Test.YtpmceapjnnkhjaaDoorMV
import Derived.Test.YtpmceapjnnkhjaaDoorPR
import Derived.Test.YtpmceapjnnkhjaaDoorPO
import Derived.Test.YtpmceapjnnkhjaaDoorPQ
set_option maxHeartbeats 16000000
set_option maxRecDepth 100000
set_option linter.unusedVariables false
set_option linter.unusedSimpArgs false
namespace Go.Proofs.YtpmceapjnnkhjaaDoor
open Go.RowKit Go.ChangeShapes Go.WideShapes Go.Deep Go.ChangeAt Go.WideMaps Go.WideElems
theorem wordIncludedMeans_lifted (os : Os) (started : os.Started) (H : Type) (enc : TypeId × Value → H) :
  ReturnsInHanded {} Tryd.checked os 17 .any (fun w args => (Rows.wordIncludedMeansSpec.pre enc Tryd.prog Tryd.f17 Rows.wordIncludedMeansRow.domain false w args ∧ laidMetH Tryd.prog Rows.wordIncludedMeansRow.laid w) ∧ sizedMet enc Tryd.prog Tryd.f17 (OpenSpec.ofChange Rows.wordIncludedMeansSpec) false w args)
   (Rows.wordIncludedMeansSpec.post enc Tryd.prog Tryd.f17 false true false false) := by
 refine returnsInHanded_of_change_and (C := Tryd.checked) (X := fun w _ => laidMetH Tryd.prog Rows.wordIncludedMeansRow.laid w) (fun _ _ _ hh h => h.of_heap hh) knobF started (by kernel_rfl) Tryd.func17
  (ChangeSpec.witness_shaped (enc := enc) (C := Tryd.checked) (os := os) (X := fun w _ => laidMetH Tryd.prog Rows.wordIncludedMeansRow.laid w) false (World.doorLaid Tryd.prog 400 os) #[.agg #[.int .i64 0, .int .i64 0, .slice none 0 0, .slice none 0 0, .slice none 0 0], .agg #[.int .i64 0, .int .i64 0, .slice none 0 0, .slice none 0 0, .slice none 0 0], .slice none 0 0] 8 rfl (World.shaped_of_RefB (by kernel_rfl) (by kernel_rfl)) (by kernel_rfl) (by kernel_rfl) (by kernel_rfl) (door_metF os _)) ?_
 intro W base args ds gs before hval0 hW _ _ hL _
 have hval : ∀ (j : Nat) t v, Tryd.f17.params[j]? = some t → args[j]? = some v → Value.okWide Tryd.prog W .any base t v := hval0
 have hW' := hW
 obtain ⟨p, q, hA0, hV, rfl, hfz, hnd⟩ := hW
 have hA : DataW.TrodAll enc Tryd.prog W 0 (fun _ => true) true Tryd.f17.params.toList args.toList ds p := hA0
 rw [Tryd.params17] at hA hval
 obtain ⟨v0, v1, v2, d0, d1, d2, p0, p1, p2, rfl, rfl, rfl, h0, h1, h2⟩ := trodAll_three hA
 obtain ⟨rfl, rfl⟩ := trodVars_none hV
 obtain ⟨a0, g0⟩ := wa_in (hval 0 25 v0 rfl rfl) h0
 obtain ⟨a1, g1⟩ := wa_in (hval 1 25 v1 rfl rfl) h1
 obtain ⟨A2, c2, l2, rfl, g2, k2⟩ := ints_in (hval 2 22 v2 rfl rfl) h2
 simp only [List.append_nil] at hW'
 have hlt := hW'.lt
 refine Calls.ret (lawIncludedMeans g0 g1 g2 (pow_of hL)) fun v W' ⟨hv, hb⟩ => ?_
 subst hv
 exact ⟨_, rfl, law_postF rfl hW' (fun _ _ _ => trodAll_mk1 (shut_bool Tryd.underlying4 _)) (fun sp hsp => by
  rw [Tryd.params17]
  rw [List.append_assoc]
  exact trodAll_mk3 (WideElems.Trod_stays laid_outF (by kernel_rfl) (of_decide_eq_true (by kernel_rfl)) h0 (fun x hx => hb.same (hlt x (List.mem_append_left _ (List.mem_append_left _ hx)))) (fun x hx => hsp x (List.mem_append_left _ (List.mem_append_left _ hx)))) (WideElems.Trod_stays laid_outF (by kernel_rfl) (of_decide_eq_true (by kernel_rfl)) h1 (fun x hx => hb.same (hlt x (List.mem_append_left _ (List.mem_append_right _ hx)))) (fun x hx => hsp x (List.mem_append_left _ (List.mem_append_right _ hx)))) (WideElems.Trod_stays laid_outF (by kernel_rfl) (of_decide_eq_true (by kernel_rfl)) h2 (fun x hx => hb.same (hlt x (List.mem_append_right _ hx))) (fun x hx => hsp x (List.mem_append_right _ hx)))) rfl hb (ok_one (by kernel_rfl) rfl (okWide_bool_mk Tryd.underlying4 _))⟩
theorem wordIncludedMeans_facts : joinedFacts Tryd.checked.prog 17 Tryd.f17 Rows.wordIncludedMeansSpec Rows.wordIncludedMeansRow = true :=
 joined_of (by kernel_rfl) seat_a2 seat_a3 (by kernel_rfl) (by kernel_rfl) (by kernel_rfl) seat_a7 (by kernel_rfl) seat_a9 (by kernel_rfl) (by kernel_rfl) (by kernel_rfl) (by kernel_rfl) (by kernel_rfl) (by kernel_rfl) (by kernel_rfl) (by kernel_rfl) (by kernel_rfl) (by kernel_rfl) (by kernel_rfl) (by kernel_rfl) (by kernel_rfl) seat_d5 (by kernel_rfl) seat_d7 seat_d8 seat_d9 seat_e1 (by kernel_rfl) (by kernel_rfl) (by kernel_rfl) (by kernel_rfl)
theorem wordIncludedMeans_row : Rows.WordIncludedMeansSaid :=
 OpenClaim.holds_of_wide 17 Tryd.f17 rfl rfl rfl rfl rfl rfl rfl ⟨rfl, rfl, rfl, rfl, rfl⟩ rfl rfl rfl rfl rfl (by kernel_rfl) Tryd.func17 wordIncludedMeans_facts
  (of_decide_eq_true (by kernel_rfl)) (by unfold Func.isWrapper; first | (rw [if_pos (by decide +kernel)]; kernel_rfl) | (rw [if_neg (by decide +kernel)]; exact ⟨rfl, rfl⟩))
  (fun os started H enc _ => wordIncludedMeans_lifted os started H enc)
end Go.Proofs.YtpmceapjnnkhjaaDoor
namespace Go.Proofs.YtpmceapjnnkhjaaDoor
open Go
theorem wordIncludedMeans_goes : false = Rows.wordIncludedMeansRow.goesBy Tryd.checked.prog := by kernel_rfl
theorem wordIncludedMeans_card : Rows.WordIncludedMeansCardSaid :=
 Claim7.holds_tied_plain_at .later [] [.data, .data, .data] true (true, "6daf4f740c5c153ba95715f286d9de89d8df7fc8863bab305309aec69a24d890") true
  wordIncludedMeans_row (fun _ h => by cases h) (by kernel_rfl) (fun _ h => by cases h) wordIncludedMeans_row_tie rfl ⟨rfl, rfl⟩ seat_main rfl
  (fun f fn hf hfn => by
   obtain rfl : f = 17 := Option.some.inj ((show Tryd.prog.funcNamed "familycheck/familychecklaw06.WordIncludedMeans" = some 17 by kernel_rfl).symm.trans hf) |>.symm
   obtain rfl : fn = Tryd.f17 := (Option.some.inj (Tryd.func17.symm.trans hfn)).symm
   exact ⟨seat_looks, fun j t ht => by
    rw [Tryd.params17] at ht
    have hm : t ∈ [25, 25, 22] := by simpa using Array.mem_of_getElem? ht
    have hall : ([25, 25, 22].all fun u => !Tryd.prog.wantsStandIn u) = true := by kernel_rfl
    exact (show Tryd.prog.wantsStandIn t = false by simpa using List.all_eq_true.1 hall t hm)⟩)
  wordIncludedMeans_goes
#print axioms wordIncludedMeans_card
end Go.Proofs.YtpmceapjnnkhjaaDoor
