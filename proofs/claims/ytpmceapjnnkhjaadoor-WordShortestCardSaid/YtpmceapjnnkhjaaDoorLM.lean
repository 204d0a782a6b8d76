/-
  Which word Shortest returns, for all automata: the program and the document return the same. The tied card.
-/
import Derived.Test.YtpmceapjnnkhjaaDoorTie
import Derived.Test.YtpmceapjnnkhjaaDoorCards
import Derived.Test.YtpmceapjnnkhjaaDoorPA
import Derived.Test.YtpmceapjnnkhjaaDoorLL
import Derived.Test.YtpmceapjnnkhjaaDoorLD
import Derived.Test.YtpmceapjnnkhjaaDoorPR
import Derived.Test.YtpmceapjnnkhjaaDoorPO
import Derived.Test.YtpmceapjnnkhjaaDoorPQ
set_option maxHeartbeats 16000000
set_option maxRecDepth 100000
set_option linter.unusedVariables false
set_option linter.unusedSimpArgs false
namespace Go.Proofs.YtpmceapjnnkhjaaDoor
open Go.RowKit
set_option maxHeartbeats 16000000
set_option maxRecDepth 100000
theorem lawShortest {v : Value} {a : WA} {w : World} (h : IsWA w w.heap.size v a) (hT : PowT w) :
  Calls Tryd.prog 5 #[v] w (Ret fun v w' => v = .bool true ∧ Below w.heap.size w w') := by
 have hWA := hide h
 obtain ⟨A1, c1, A2, c2, A3, c3, rfl, h1, h2, h3, h4⟩ := h
 obtain ⟨w1, hw1, hb1, hB1, hk1⟩ := box_blk w #[.int .i64 a.letters, .int .i64 a.states, .slice A1 a.start.length c1, .slice A2 a.accept.length c2, .slice A3 a.edges.length c3] 25
 have hs1 := hb1.size
 have hc1 := hB1.cell
 have hb1H := hide hb1
 have hB1H := hide hB1
 have hTH := hide hT
 have hbig := Big_any (hWA.out.keep (w' := w1) (fun p hp => hb1.cell hp) hs1)
 clear h1 h2 h3 h4 hk1 hb1 hB1 hT
 go_enter Tryd.func5, Tryd.ntmps5
 go_wp2_with fail
 refine Calls.ret hbig ?_
 rintro r w2 ⟨rfl, hb2⟩
 have hb02 := hide (hb1H.out.trans (hb2.mono hs1))
 have hB2 := hide (hB1H.out.below hb2)
 have hc2 := hB2.out.cell
 clear hbig hb2 hc1
 cases hbg : a.big with
 | true =>
  have hkn2 := known_any (hTH.out.below hb02.out)
  go_wp2_with fail
  refine Calls.ret hkn2 ?_
  rintro r w3 ⟨rfl, hb3⟩
  have hb03 := hide (hb02.out.trans (hb3.mono hb02.out.size))
  clear hb3 hkn2
  go_wp2_with fail
  go_ret
  exact ⟨rfl, hb03.out⟩
 | false =>
  obtain ⟨g1, g2, g3⟩ := WA.big_not hbg
  clear hbg
  have hsh := Shortest_any (hWA.out.keep (w' := w2) (fun p hp => hb02.out.cell hp) hb02.out.size) (by omega) (by omega)
  go_wp2_with fail
  refine Calls.ret hsh ?_
  rintro r w3 ⟨hb3, hcase⟩
  have hb03 := hide (hb02.out.trans (hb3.mono hb02.out.size))
  have hB3 := hide (hB2.out.below (hb3.mono (Nat.le_refl _)))
  have hc3 := hB3.out.cell
  have hre := refShortest_any (hWA.out.keep (w' := w3) (fun p hp => hb03.out.cell hp) hb03.out.size) (by omega)
  clear hsh hb3 hc2
  have hX : ∃ (u : List Nat) (A4 : Option Addr) (c4 : Nat) (is : Bool) (e : Int), r = .tuple #[.slice A4 u.length c4, .bool is, .int .i64 e] ∧ Sl w3 w3.heap.size 1 encI A4 (natL u) ∧
    ∀ r' w', ShoRet w3 a r' w' → Below w3.heap.size w3 w' ∧ ∃ (A5 : Option Addr) (c5 : Nat), r' = .tuple #[.slice A5 u.length c5, .bool is, .int .i64 e] ∧ Sl w' w'.heap.size 1 encI A5 (natL u) := by
   rcases hcase with ⟨hok, rfl⟩ | ⟨hok, far, hF, ⟨hno, rfl⟩ | ⟨u, A4, c4, hu, rfl, hS⟩⟩
   ·refine ⟨[], none, 0, false, 1, rfl, Sl.nil rfl, ?_⟩
    rintro r' w' ⟨hb, ⟨-, rfl⟩ | ⟨h, -⟩⟩
    ·exact ⟨hb, none, 0, rfl, Sl.nil rfl⟩
    ·rw [hok] at h; cases h
   ·refine ⟨[], none, 0, false, 0, rfl, Sl.nil rfl, ?_⟩
    rintro r' w' ⟨hb, ⟨h, -⟩ | ⟨-, far', hF', ⟨-, rfl⟩ | ⟨u', A5, c5, hu', -⟩⟩⟩
    ·rw [hok] at h; cases h
    ·exact ⟨hb, none, 0, rfl, Sl.nil rfl⟩
    ·rw [hF'.unique hF, hno] at hu'; cases hu'
   ·refine ⟨u, A4, c4, true, 0, rfl, hS, ?_⟩
    rintro r' w' ⟨hb, ⟨h, -⟩ | ⟨-, far', hF', ⟨hno, rfl⟩ | ⟨u', A5, c5, hu', rfl, hS'⟩⟩⟩
    ·rw [hok] at h; cases h
    ·rw [hF'.unique hF, hu] at hno; cases hno
    ·rw [hF'.unique hF, hu] at hu'
     obtain rfl := Option.some.inj hu'
     exact ⟨hb, A5, c5, rfl, hS'⟩
  obtain ⟨u, A4, c4, is, e, rfl, hS, hX⟩ := hX
  have hSH := hide hS
  have hXH := hide hX
  have heq : (e == e) = true := by simp
  have heq2 : (is == is) = true := by simp
  obtain ⟨n, hn⟩ : ∃ n, n = u.length := ⟨_, rfl⟩
  have hnH := hide hn
  rw [← hn]
  clear hcase hS hX hn
  go_wp2_with fail
  refine Calls.ret hre ?_
  rintro r w4 hr4
  obtain ⟨hb4, A5, c5, rfl, hS4⟩ := hXH.out _ _ hr4
  have hb04 := hide (hb03.out.trans (hb4.mono hb03.out.size))
  have hsa := sameInts_any (c1 := c4) (c2 := c5) (hSH.out.keep (w' := w4) (fun p hp => hb4.cell hp) hb4.size) hS4 (Nat.le_refl _) (Nat.le_refl _)
  rw [decide_eq_true (rfl : natL u = natL u), show (natL u).length = n by rw [hnH.out]; simp [natL]] at hsa
  rw [← hnH.out]
  clear hre hr4 hb4 hS4
  go_wp2_with fail
  refine Calls.ret hsa ?_
  rintro r w5 ⟨rfl, hb5⟩
  have hb05 := hide (hb04.out.trans (hb5.mono hb04.out.size))
  have hkn := known_any (hTH.out.below hb05.out)
  clear hsa hb5
  go_wp2_with fail
  refine Calls.ret hkn ?_
  rintro r w6 ⟨rfl, hb6⟩
  have hb06 := hide (hb05.out.trans (hb6.mono hb05.out.size))
  clear hkn hb6
  go_wp2_with fail
  go_ret
  exact ⟨rfl, hb06.out⟩
end Go.Proofs.YtpmceapjnnkhjaaDoor
namespace Go.Proofs.YtpmceapjnnkhjaaDoor
open Go.RowKit Go.ChangeShapes Go.WideShapes Go.Deep Go.ChangeAt Go.WideMaps Go.WideElems
theorem wordShortest_lifted (os : Os) (started : os.Started) (H : Type) (enc : TypeId × Value → H) :
  ReturnsInHanded {} Tryd.checked os 5 .any (fun w args => (Rows.wordShortestSpec.pre enc Tryd.prog Tryd.f5 Rows.wordShortestRow.domain false w args ∧ laidMetH Tryd.prog Rows.wordShortestRow.laid w) ∧ sizedMet enc Tryd.prog Tryd.f5 (OpenSpec.ofChange Rows.wordShortestSpec) false w args)
   (Rows.wordShortestSpec.post enc Tryd.prog Tryd.f5 false true false false) := by
 refine returnsInHanded_of_change_and (C := Tryd.checked) (X := fun w _ => laidMetH Tryd.prog Rows.wordShortestRow.laid w) (fun _ _ _ hh h => h.of_heap hh) knobF started (by kernel_rfl) Tryd.func5
  (ChangeSpec.witness_shaped (enc := enc) (C := Tryd.checked) (os := os) (X := fun w _ => laidMetH Tryd.prog Rows.wordShortestRow.laid w) false (World.doorLaid Tryd.prog 400 os) #[.agg #[.int .i64 0, .int .i64 0, .slice none 0 0, .slice none 0 0, .slice none 0 0]] 8 rfl (World.shaped_of_RefB (by kernel_rfl) (by kernel_rfl)) (by kernel_rfl) (by kernel_rfl) (by kernel_rfl) (door_metF os _)) ?_
 intro W base args ds gs before hval0 hW _ _ hL _
 have hval : ∀ (j : Nat) t v, Tryd.f5.params[j]? = some t → args[j]? = some v → Value.okWide Tryd.prog W .any base t v := hval0
 have hW' := hW
 obtain ⟨p, q, hA0, hV, rfl, hfz, hnd⟩ := hW
 have hA : DataW.TrodAll enc Tryd.prog W 0 (fun _ => true) true Tryd.f5.params.toList args.toList ds p := hA0
 rw [Tryd.params5] at hA hval
 obtain ⟨v0, d0, rfl, rfl, h0⟩ := trodAll_one hA
 obtain ⟨rfl, rfl⟩ := trodVars_none hV
 obtain ⟨a0, g0⟩ := wa_in (hval 0 25 v0 rfl rfl) h0
 simp only [List.append_nil] at hW'
 have hlt := hW'.lt
 refine Calls.ret (lawShortest g0 (pow_of hL)) fun v W' ⟨hv, hb⟩ => ?_
 subst hv
 exact ⟨_, rfl, law_postF rfl hW' (fun _ _ _ => trodAll_mk1 (shut_bool Tryd.underlying4 _)) (fun sp hsp => by
  rw [Tryd.params5]
  exact trodAll_mk1 (WideElems.Trod_stays laid_outF (by kernel_rfl) (of_decide_eq_true (by kernel_rfl)) h0 (fun x hx => hb.same (hlt x (hx))) (fun x hx => hsp x (hx)))) rfl hb (ok_one (by kernel_rfl) rfl (okWide_bool_mk Tryd.underlying4 _))⟩
theorem wordShortest_facts : joinedFacts Tryd.checked.prog 5 Tryd.f5 Rows.wordShortestSpec Rows.wordShortestRow = true :=
 joined_of (by kernel_rfl) seat_a2 seat_a3 (by kernel_rfl) (by kernel_rfl) (by kernel_rfl) seat_a7 (by kernel_rfl) seat_a9 (by kernel_rfl) (by kernel_rfl) (by kernel_rfl) (by kernel_rfl) (by kernel_rfl) (by kernel_rfl) (by kernel_rfl) (by kernel_rfl) (by kernel_rfl) (by kernel_rfl) (by kernel_rfl) (by kernel_rfl) (by kernel_rfl) seat_d5 (by kernel_rfl) seat_d7 seat_d8 seat_d9 seat_e1 (by kernel_rfl) (by kernel_rfl) (by kernel_rfl) (by kernel_rfl)
theorem wordShortest_row : Rows.WordShortestSaid :=
 OpenClaim.holds_of_wide 5 Tryd.f5 rfl rfl rfl rfl rfl rfl rfl ⟨rfl, rfl, rfl, rfl, rfl⟩ rfl rfl rfl rfl rfl (by kernel_rfl) Tryd.func5 wordShortest_facts
  (of_decide_eq_true (by kernel_rfl)) (by unfold Func.isWrapper; first | (rw [if_pos (by decide +kernel)]; kernel_rfl) | (rw [if_neg (by decide +kernel)]; exact ⟨rfl, rfl⟩))
  (fun os started H enc _ => wordShortest_lifted os started H enc)
end Go.Proofs.YtpmceapjnnkhjaaDoor
namespace Go.Proofs.YtpmceapjnnkhjaaDoor
open Go
theorem wordShortest_goes : false = Rows.wordShortestRow.goesBy Tryd.checked.prog := by kernel_rfl
theorem wordShortest_card : Rows.WordShortestCardSaid :=
 Claim7.holds_tied_plain_at .later [] [.data, .data, .data] true (true, "6daf4f740c5c153ba95715f286d9de89d8df7fc8863bab305309aec69a24d890") true
  wordShortest_row (fun _ h => by cases h) (by kernel_rfl) (fun _ h => by cases h) wordShortest_row_tie rfl ⟨rfl, rfl⟩ seat_main rfl
  (fun f fn hf hfn => by
   obtain rfl : f = 5 := Option.some.inj ((show Tryd.prog.funcNamed "familycheck/familychecklaw06.WordShortest" = some 5 by kernel_rfl).symm.trans hf) |>.symm
   obtain rfl : fn = Tryd.f5 := (Option.some.inj (Tryd.func5.symm.trans hfn)).symm
   exact ⟨seat_looks, fun j t ht => by
    rw [Tryd.params5] at ht
    have hm : t ∈ [25] := by simpa using Array.mem_of_getElem? ht
    have hall : ([25].all fun u => !Tryd.prog.wantsStandIn u) = true := by kernel_rfl
    exact (show Tryd.prog.wantsStandIn t = false by simpa using List.all_eq_true.1 hall t hm)⟩)
  wordShortest_goes
#print axioms wordShortest_card
end Go.Proofs.YtpmceapjnnkhjaaDoor
