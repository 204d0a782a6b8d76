/-
  The image of a language contains every word that is related to one of its words. The tied card.
-/
import Derived.Test.YtpmceapjnnkhjaaDoorTie
import Derived.Test.YtpmceapjnnkhjaaDoorCards
import Derived.Test.YtpmceapjnnkhjaaDoorPA
import Derived.Test.YtpmceapjnnkhjaaDoorPR
import Derived.Test.YtpmceapjnnkhjaaDoorXN
import Derived.Test.YtpmceapjnnkhjaaDoorPO
import Derived.Test.YtpmceapjnnkhjaaDoorPQ
set_option maxHeartbeats 16000000
set_option maxRecDepth 100000
set_option linter.unusedVariables false
set_option linter.unusedSimpArgs false
namespace Go.Proofs.YtpmceapjnnkhjaaDoor
set_option maxRecDepth 100000
set_option maxHeartbeats 16000000
open Go.RowKit Go.ChangeShapes Go.WideShapes Go.Deep Go.ChangeAt Go.WideMaps Go.WideElems
section
variable {H : Type} {enc : TypeId × Value → H} {w : World} {base : Nat} {spare : Nat → Bool} {held : Bool}
theorem two_in {r : Go.Reach} {b0 : Nat} {v : Value} {d : DataW H} {p : List MemPlace} (hv : Value.okWide Tryd.prog w r b0 59 v) (h : DataW.Trod enc Tryd.prog w base spare held 59 v d p) :
  ∃ A c, ∃ l : List Int, ∃ A' c', ∃ l' : List Int, v = .agg #[.slice A l.length c, .slice A' l'.length c'] ∧ Sl w w.heap.size 1 encI A l ∧ Sl w w.heap.size 1 encI A' l' := by
 obtain ⟨cs, rfl, hsz⟩ := okWide_struct Tryd.underlying59 hv
 obtain ⟨l⟩ := cs
 have hC : Tryd.prog.cellsOf 59 = 2 := by kernel_rfl
 match l, hsz.trans hC with
 | [c0, c1], _ =>
  obtain ⟨fuel, hf⟩ := h
  obtain ⟨xs, n, _, _, _, hxl, hg⟩ := DataW.trod_struct Tryd.underlying59 hf
  have hl : xs.length = 2 := hxl
  have hxs : ∀ k, k < 2 → ∃ y, xs[k]? = some y := fun k hk => get_lt (by omega)
  have h22 : Tryd.prog.cellsOf 22 = 1 := by kernel_rfl
  have g2 : DataW.trod enc Tryd.prog w base spare held n 22 (([c0, c1].drop 0).take (Tryd.prog.cellsOf 22)) = xs[0]? := hg 0 _ rfl
  have g3 : DataW.trod enc Tryd.prog w base spare held n 22 (([c0, c1].drop 1).take (Tryd.prog.cellsOf 22)) = xs[1]? := hg 1 _ rfl
  rw [h22] at g2 g3
  obtain ⟨y2, e2⟩ := hxs 0 (by omega)
  obtain ⟨y3, e3⟩ := hxs 1 (by omega)
  rw [e2] at g2
  rw [e3] at g3
  obtain ⟨A2, d2, xs2, rfl, s2, _⟩ := ints_inF (v := c0) g2
  obtain ⟨A3, d3, xs3, rfl, s3, _⟩ := ints_inF (v := c1) g3
  exact ⟨A2, d2, xs2, A3, d3, xs3, rfl, s2, s3⟩
end
end Go.Proofs.YtpmceapjnnkhjaaDoor
namespace Go.Proofs.YtpmceapjnnkhjaaDoor
open Go.RowKit Go.ChangeShapes Go.WideShapes Go.Deep Go.ChangeAt Go.WideMaps Go.WideElems
theorem wordImageMeans_lifted (os : Os) (started : os.Started) (H : Type) (enc : TypeId × Value → H) :
  ReturnsInHanded {} Tryd.checked os 16 .any (fun w args => (Rows.wordImageMeansSpec.pre enc Tryd.prog Tryd.f16 Rows.wordImageMeansRow.domain false w args ∧ laidMetH Tryd.prog Rows.wordImageMeansRow.laid w) ∧ sizedMet enc Tryd.prog Tryd.f16 (OpenSpec.ofChange Rows.wordImageMeansSpec) false w args)
   (Rows.wordImageMeansSpec.post enc Tryd.prog Tryd.f16 false true false false) := by
 refine returnsInHanded_of_change_and (C := Tryd.checked) (X := fun w _ => laidMetH Tryd.prog Rows.wordImageMeansRow.laid w) (fun _ _ _ hh h => h.of_heap hh) knobF started (by kernel_rfl) Tryd.func16
  (ChangeSpec.witness_shaped (enc := enc) (C := Tryd.checked) (os := os) (X := fun w _ => laidMetH Tryd.prog Rows.wordImageMeansRow.laid w) false (World.doorLaid Tryd.prog 400 os) #[.agg #[.int .i64 0, .int .i64 0, .slice none 0 0, .slice none 0 0, .slice none 0 0], .agg #[.int .i64 0, .int .i64 0, .slice none 0 0, .slice none 0 0, .slice none 0 0], .agg #[.slice none 0 0, .slice none 0 0]] 8 rfl (World.shaped_of_RefB (by kernel_rfl) (by kernel_rfl)) (by kernel_rfl) (by kernel_rfl) (by kernel_rfl) (door_metF os _)) ?_
 intro W base args ds gs before hval0 hW _ _ hL _
 have hval : ∀ (j : Nat) t v, Tryd.f16.params[j]? = some t → args[j]? = some v → Value.okWide Tryd.prog W .any base t v := hval0
 have hW' := hW
 obtain ⟨p, q, hA0, hV, rfl, hfz, hnd⟩ := hW
 have hA : DataW.TrodAll enc Tryd.prog W 0 (fun _ => true) true Tryd.f16.params.toList args.toList ds p := hA0
 rw [Tryd.params16] at hA hval
 obtain ⟨v0, v1, v2, d0, d1, d2, p0, p1, p2, rfl, rfl, rfl, h0, h1, h2⟩ := trodAll_three hA
 obtain ⟨rfl, rfl⟩ := trodVars_none hV
 obtain ⟨a0, g0⟩ := tr_in (hval 0 45 v0 rfl rfl) h0
 obtain ⟨a1, g1⟩ := wa_in (hval 1 25 v1 rfl rfl) h1
 obtain ⟨A2, c2, l2, A2', c2', l2', rfl, g2, g2'⟩ := two_in (hval 2 59 v2 rfl rfl) h2
 simp only [List.append_nil] at hW'
 have hlt := hW'.lt
 refine Calls.ret (lawImageMeans g0 g1 g2 g2' (pow_of hL)) fun v W' ⟨hv, hb⟩ => ?_
 subst hv
 exact ⟨_, rfl, law_postF rfl hW' (fun _ _ _ => trodAll_mk1 (shut_bool Tryd.underlying4 _)) (fun sp hsp => by
  rw [Tryd.params16]
  rw [List.append_assoc]
  exact trodAll_mk3 (WideElems.Trod_stays laid_outF (by kernel_rfl) (of_decide_eq_true (by kernel_rfl)) h0 (fun x hx => hb.same (hlt x (List.mem_append_left _ (List.mem_append_left _ hx)))) (fun x hx => hsp x (List.mem_append_left _ (List.mem_append_left _ hx)))) (WideElems.Trod_stays laid_outF (by kernel_rfl) (of_decide_eq_true (by kernel_rfl)) h1 (fun x hx => hb.same (hlt x (List.mem_append_left _ (List.mem_append_right _ hx)))) (fun x hx => hsp x (List.mem_append_left _ (List.mem_append_right _ hx)))) (WideElems.Trod_stays laid_outF (by kernel_rfl) (of_decide_eq_true (by kernel_rfl)) h2 (fun x hx => hb.same (hlt x (List.mem_append_right _ hx))) (fun x hx => hsp x (List.mem_append_right _ hx)))) rfl hb (ok_one (by kernel_rfl) rfl (okWide_bool_mk Tryd.underlying4 _))⟩
theorem wordImageMeans_facts : joinedFacts Tryd.checked.prog 16 Tryd.f16 Rows.wordImageMeansSpec Rows.wordImageMeansRow = true :=
 joined_of (by kernel_rfl) seat_a2 seat_a3 (by kernel_rfl) (by kernel_rfl) (by kernel_rfl) seat_a7 (by kernel_rfl) seat_a9 (by kernel_rfl) (by kernel_rfl) (by kernel_rfl) (by kernel_rfl) (by kernel_rfl) (by kernel_rfl) (by kernel_rfl) (by kernel_rfl) (by kernel_rfl) (by kernel_rfl) (by kernel_rfl) (by kernel_rfl) (by kernel_rfl) seat_d5 (by kernel_rfl) seat_d7 seat_d8 seat_d9 seat_e1 (by kernel_rfl) (by kernel_rfl) (by kernel_rfl) (by kernel_rfl)
theorem wordImageMeans_row : Rows.WordImageMeansSaid :=
 OpenClaim.holds_of_wide 16 Tryd.f16 rfl rfl rfl rfl rfl rfl rfl ⟨rfl, rfl, rfl, rfl, rfl⟩ rfl rfl rfl rfl rfl (by kernel_rfl) Tryd.func16 wordImageMeans_facts
  (of_decide_eq_true (by kernel_rfl)) (by unfold Func.isWrapper; first | (rw [if_pos (by decide +kernel)]; kernel_rfl) | (rw [if_neg (by decide +kernel)]; exact ⟨rfl, rfl⟩))
  (fun os started H enc _ => wordImageMeans_lifted os started H enc)
end Go.Proofs.YtpmceapjnnkhjaaDoor
namespace Go.Proofs.YtpmceapjnnkhjaaDoor
open Go
theorem wordImageMeans_goes : false = Rows.wordImageMeansRow.goesBy Tryd.checked.prog := by kernel_rfl
theorem wordImageMeans_card : Rows.WordImageMeansCardSaid :=
 Claim7.holds_tied_plain_at .later [] [.data, .data, .data] true (true, "6daf4f740c5c153ba95715f286d9de89d8df7fc8863bab305309aec69a24d890") true
  wordImageMeans_row (fun _ h => by cases h) (by kernel_rfl) (fun _ h => by cases h) wordImageMeans_row_tie rfl ⟨rfl, rfl⟩ seat_main rfl
  (fun f fn hf hfn => by
   obtain rfl : f = 16 := Option.some.inj ((show Tryd.prog.funcNamed "familycheck/familychecklaw06.WordImageMeans" = some 16 by kernel_rfl).symm.trans hf) |>.symm
   obtain rfl : fn = Tryd.f16 := (Option.some.inj (Tryd.func16.symm.trans hfn)).symm
   exact ⟨seat_looks, fun j t ht => by
    rw [Tryd.params16] at ht
    have hm : t ∈ [45, 25, 59] := by simpa using Array.mem_of_getElem? ht
    have hall : ([45, 25, 59].all fun u => !Tryd.prog.wantsStandIn u) = true := by kernel_rfl
    exact (show Tryd.prog.wantsStandIn t = false by simpa using List.all_eq_true.1 hall t hm)⟩)
  wordImageMeans_goes
#print axioms wordImageMeans_card
end Go.Proofs.YtpmceapjnnkhjaaDoor
