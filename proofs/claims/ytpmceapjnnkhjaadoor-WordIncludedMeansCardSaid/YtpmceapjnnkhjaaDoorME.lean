/-
  Part ME of a proof.
-/
import Derived.Test.YtpmceapjnnkhjaaDoorPA
import Derived.Test.YtpmceapjnnkhjaaDoorPJ
import Derived.Test.YtpmceapjnnkhjaaDoorLG
import Derived.Test.YtpmceapjnnkhjaaDoorLK
import Derived.Test.YtpmceapjnnkhjaaDoorLD
set_option maxHeartbeats 16000000
set_option maxRecDepth 100000
set_option linter.unusedVariables false
set_option linter.unusedSimpArgs false
namespace Go.Proofs.YtpmceapjnnkhjaaDoor
open Go.RowKit
set_option maxHeartbeats 16000000
set_option maxRecDepth 100000
theorem own_set1 {w : World} {base e g n cap k : Nat} {xs : List Value} (h : w.ownsRow base e 1 (.slice (some ⟨g, 0, none⟩) n cap) n xs) (u : Value) : (w.setCell ⟨g, k, none⟩ u).ownsRow base e 1 (.slice (some ⟨g, 0, none⟩) n cap) n (xs.set k u) := by
 obtain ⟨hl, hx⟩ := h
 refine ⟨by rw [List.length_set]; exact hl, ?_⟩
 rcases hx with ⟨h0, _⟩ | ⟨g', cap', cur, hv, hb, hh, hc, hm, hs, ht⟩
 ·cases h0
 ·injection hv with e1 e2 e3
  injection e1 with e1
  injection e1 with e1
  subst e1 e3
  refine .inr ⟨g, cap, cur.setIfInBounds k u, rfl, hb, Blk.set_ hh k u, hc, hm, by simp [hs], ?_⟩
  rw [Array.toList_setIfInBounds, List.take_set, ht]
def flipK (ac : List Bool) (s : Nat) : List Bool := (ac.take s).map (!·) ++ ac.drop s
theorem flipK_zero (ac : List Bool) : flipK ac 0 = ac := by simp [flipK]
theorem flipK_all {ac : List Bool} {s : Nat} (h : ac.length ≤ s) : flipK ac s = ac.map (!·) := by
 unfold flipK
 rw [List.take_of_length_le h, List.drop_of_length_le h, List.append_nil]
theorem flipK_len (ac : List Bool) (s : Nat) : (flipK ac s).length = ac.length := by
 simp [flipK]
 omega
theorem flipK_at {ac : List Bool} {s : Nat} {b : Bool} (h : ac[s]? = some b) : (flipK ac s)[s]? = some b := by
 have hs := lt_of_get h
 unfold flipK
 have hl : ((ac.take s).map (!·)).length = s := by simp; omega
 rw [List.getElem?_append_right (by omega), hl, List.getElem?_drop]
 simpa using h
theorem flipK_succ {ac : List Bool} {s : Nat} {b : Bool} (h : ac[s]? = some b) : flipK ac (s + 1) = (flipK ac s).set s (!b) := by
 have hs := lt_of_get h
 have hl : ((ac.take s).map (!·)).length = s := by simp; omega
 unfold flipK
 rw [List.set_append_right _ _ (by omega), hl, take_snoc h, List.map_append, List.append_assoc]
 congr 1
 have hd : ac.drop s = b :: ac.drop (s + 1) := by
  rw [List.drop_eq_getElem_cons hs]
  congr 1
  rw [List.getElem?_eq_getElem hs] at h
  exact Option.some.inj h
 rw [hd]
 simp
def ComRet (w : World) (a : WA) (v : Value) (w' : World) : Prop :=
 Below w.heap.size w w' ∧ ((a.ok = false ∧ v = .tuple #[.agg zero25, .int .i64 1]) ∨ (a.ok = true ∧ a.nf.Large 400 ∧ v = .tuple #[.agg zero25, .int .i64 4]) ∨
  (a.ok = true ∧ ¬ a.nf.Large 400 ∧ ∃ t ac d, CanT a.L t ac a.lang ∧ ac.length ≤ 400 ∧ v = .tuple #[d, .int .i64 0] ∧ ∀ w'', Kept w' w'' (fun k => k < w.heap.size) → IsWA w'' w''.heap.size d (plainW a.L t (ac.map (!·)))))
theorem Complement_any {v : Value} {a : WA} {w : World} (h : IsWA w w.heap.size v a) (he : a.edges.length ≤ 3000000) (hst : a.start.length ≤ 4000000) (hT : PowT w) :
  Calls Tryd.prog 37 #[v] w (Ret fun r w' => ComRet w a r w') := by
 have hWA := hide h
 obtain ⟨A1, c1, A2, c2, A3, c3, rfl, h1, h2, h3, h4⟩ := h
 obtain ⟨w1, hw1, hb1, hB1, hk1⟩ := box_blk w #[.int .i64 a.letters, .int .i64 a.states, .slice A1 a.start.length c1, .slice A2 a.accept.length c2, .slice A3 a.edges.length c3] 25
 obtain ⟨w2, hw2, hb2, hB2, hk2⟩ := box_blk w1 zero25 25
 have hs1 := hb1.size
 have hb02 : Below w.heap.size w w2 := hb1.trans (hb2.mono hs1)
 have hs2 := hb02.size
 have hBx := hide (hB1.below hb2)
 have hc2 := (hB1.below hb2).cell
 have hl1 := hB1.lt
 have hR := hide hB2
 have hval := validate_any (hWA.out.keep (fun p hp => hb02.cell hp) hs2)
 cases hok : a.ok
 ·rw [hok, show errno false = 1 from rfl] at hval
  have hokH := hide hok
  clear h1 h2 h3 h4 hk1 hk2 hb1 hb2 hB1 hB2 he hst hT hok
  go_enter Tryd.func37, Tryd.ntmps37
  go_wp2_with fail
  refine Calls.ret hval ?_
  rintro r w3 ⟨rfl, hb3⟩
  have hR3 := hR.out.below hb3
  have hf3 := hR3.frozen
  have hl3 := hR3.lt
  have hc3 := hR3.cell
  obtain ⟨wF, hwF, hBF, hKF⟩ := set5_facts hR3 (.int .i64 0) (.int .i64 0) sn0 sn0 sn0
  have hBFc := hBF.cell
  have hb03 := hb02.trans (hb3.mono hs2)
  have hbF := hide (hb03.trans (hKF.below hb03.size fun b hb e => by omega))
  unfold set5 at hwF
  clear hval hb3 hR3 hBF hKF hb03
  go_wp2_with fail
  refine bodyPost_ret (v := .tuple #[.agg zero25, .int .i64 1]) (by simp [results, Tryd.results37, go_sem, hBFc]) rfl ⟨hbF.out, .inl ⟨hokH.out, rfl⟩⟩
 ·rw [hok, show errno true = 0 from rfl] at hval
  have hin := (WA.ok_iff.1 hok).2
  have hbd := (WA.ok_iff.1 hok).1
  have hLl : a.letters = (a.L : Int) := by unfold WA.L; omega
  have hL8 : a.L ≤ 8 := by unfold WA.L; omega
  have hcan := hide (fun (wx : World) (hb : Below w.heap.size w wx) => canonical_own (hWA.out.keep (w' := wx) (fun p hp => hb.cell hp) hb.size) hin ⟨by omega, by omega⟩ ⟨by omega, by omega⟩ he hst (hT.below hb))
  have haut := hide (fun (wx : World) (d : Value) (t : List (List Nat)) (ac : List Bool) (Λ : List Nat → Bool) (hI : IsDF wx wx.heap.size d t ac) (hC : CanT a.L t ac Λ) (hl : ac.length ≤ 400) => automaton_any hI hC.ok hL8 (by omega))
  have hokH := hide hok
  have hL8H := hide hL8
  rw [hLl] at hw1 hc2 hBx hcan hval ⊢
  clear h1 h2 h3 h4 hk1 hk2 hb1 hb2 hB1 hB2 he hst hT hok hin hbd hLl hL8
  go_enter Tryd.func37, Tryd.ntmps37
  go_wp2_with fail
  refine Calls.ret hval ?_
  rintro r w3 ⟨rfl, hb3⟩
  have hb03 := hb02.trans (hb3.mono hs2)
  have hBx3 := hide (hBx.out.below hb3)
  have hR3 := hide (hR.out.below hb3)
  have hc3 := hBx3.out.cell
  clear hval hb3 hc2
  go_wp2_with fail
  refine Calls.ret (hcan.out _ hb03) ?_
  rintro r w4 ⟨hb4, hr⟩
  have hb04 := hb03.trans (hb4.mono hb03.size)
  have hBx4 := hBx3.out.below hb4
  have hR4 := hR3.out.below hb4
  have hs4 := hb04.size
  have hl4 := hR4.lt
  clear hc3
  obtain ⟨w5, hw5, hb5, hB5, hk5⟩ := box_blk w4 #[sn0, sn0] 72
  have hf5 := hB5.frozen
  have hl5 := hB5.lt
  have hc5 := hB5.cell
  rcases hr with ⟨hLg, rfl⟩ | ⟨hnl, t, ac, d, hC, hacl, rfl, hDF, hOw⟩
  ·obtain ⟨w6, hw6, hB6, hK6⟩ := set2_facts hB5 sn0 sn0
   have hb46 : Below w4.heap.size w4 w6 := hb5.trans (hK6.below hb5.size fun b hb e => by omega)
   have hb06 := hb04.trans (hb46.mono hs4)
   have hR6 := hR4.below hb46
   have hf6 := hR6.frozen
   have hl6 := hR6.lt
   have hc6 := hR6.cell
   obtain ⟨wF, hwF, hBF, hKF⟩ := set5_facts hR6 (.int .i64 0) (.int .i64 0) sn0 sn0 sn0
   have hBFc := hBF.cell
   have hbF := hide (hb06.trans (hKF.below hb06.size fun b hb e => by omega))
   have hLgH := hide hLg
   unfold set5 at hwF
   unfold set2 at hw6
   clear hLg hb4 hBx4 hR4 hB5 hk5 hb5 hB6 hK6 hb46 hb06 hR6 hBF hKF hb04
   go_wp2_with fail
   refine bodyPost_ret (v := .tuple #[.agg zero25, .int .i64 4]) (by simp [results, Tryd.results37, go_sem, hBFc]) rfl ⟨hbF.out, .inr (.inl ⟨hokH.out, hLgH.out, rfl⟩)⟩
  ·obtain ⟨vN, vA, ws, rfl, hA, hN, hRows⟩ := hOw
   have hpos := hC.ok.pos
   obtain ⟨b0, hb0⟩ := get_lt hpos
   obtain ⟨gA, cA, rfl, -⟩ := own_get hA (map_get (f := Value.bool) hb0)
   obtain ⟨AN, cN, rfl⟩ := slice_of_own hN
   obtain ⟨w6, hw6, hB6, hK6⟩ := set2_facts hB5 (.slice AN t.length cN) (.slice (some ⟨gA, 0, none⟩) ac.length cA)
   have hb46 : Below w4.heap.size w4 w6 := hb5.trans (hK6.below hb5.size fun b hb e => by omega)
   have hb06 := hb04.trans (hb46.mono hs4)
   have hs6 := hb46.size
   have hgA := own_base hA (k := gA) rfl
   have hgl := own_lt hA (k := gA) rfl
   have hA6 : Hid (w6.ownsRow w.heap.size 4 1 (.slice (some ⟨gA, 0, none⟩) ac.length cA) ac.length ((flipK ac 0).map Value.bool)) := by
    rw [flipK_zero]
    exact own_mono (own_below hA hb46) (by have := hb03.size; omega)
   have hN6 := hide (own_mono (own_below hN hb46) (base' := w.heap.size) (by have := hb03.size; omega))
   have hR6s := hide (hRows.keep (w' := w6) (X := fun _ => False) (Kept.of_below hb46 (fun _ => False)) (fun _ _ _ e => e.elim) (fun _ _ x => x) (show w.heap.size ≤ _ from by have := hb03.size; omega))
   have hR6 := hide (hR4.below hb46)
   have hBx6 := hide (hBx4.below hb46)
   have hB6H := hide hB6
   have hc6 := hB6.cell
   have hnlH := hide hnl
   have hCH := hide hC
   have haclH := hide hacl
   have hb06H := hide hb06
   have hge1 : w.heap.size ≤ gA := by have := hb03.size; omega
   have hge2 : gA < w6.heap.size := by omega
   have hgne : gA ≠ w4.heap.size := by omega
   have hgn2 : gA ≠ w1.heap.size := by have := hR3.out.lt; omega
   have hgn3 : gA ≠ w.heap.size := by have := hR3.out.lt; omega
   unfold set2 at hw6
   obtain ⟨lr, hlr⟩ : ∃ lr, lr = t.length := ⟨_, rfl⟩
   obtain ⟨la, hla⟩ : ∃ la, la = ac.length := ⟨_, rfl⟩
   rw [← hlr] at hw6 hc6 hN6 hB6H ⊢
   rw [← hla] at hw6 hc6 hA6 hB6H hacl ⊢
   have hlaH := hide hla
   have hlrH := hide hlr
   clear hnl hC hDF hA hN hRows hb4 hBx4 hR4 hB5 hk5 hb5 hB6 hK6 hb46 hb06 hb04 hlr hla hpos hb0 hgl hgA
   go_wp2_with fail
   go_loopw [26] (fun ii wr => ∃ (s : Nat), ii = .int .i64 (s : Int) ∧ s ≤ la ∧ Hid (Kept w6 wr (fun k => k = gA)) ∧ Hid (wr.ownsRow w.heap.size 4 1 (.slice (some ⟨gA, 0, none⟩) la cA) la ((flipK ac s).map Value.bool))) (fun ii _ => la - (intOf ii).toNat)
   case atStart => exact ⟨0, rfl, Nat.zero_le _, hide (Kept.refl _ _), hA6⟩
   case round =>
    obtain ⟨s, rfl, hs, hK, hO⟩ := hrel
    have hBr := hB6H.out.kept hK.out (fun e => hgne e.symm)
    have hcr := hBr.cell
    by_cases hlt : s < la
    ·obtain ⟨b, hb⟩ := get_lt (l := ac) (i := s) (by rw [← hlaH.out]; exact hlt)
     obtain ⟨g', cap', hv', hcb⟩ := own_get hO.out (map_get (f := Value.bool) (flipK_at hb))
     injection hv' with e1 e2 e3
     injection e1 with e1
     injection e1 with e1
     subst e1 e3
     have hblk : ∃ cs, Blk wr gA 4 cs := by
      rcases hO.out.2 with ⟨h0, _⟩ | ⟨g', cap', cur, hv, hb, hh, _⟩
      ·cases h0
      ·injection hv with e1 _ _
       injection e1 with e1
       injection e1 with e1
       subst e1
       exact ⟨cur, hh⟩
     obtain ⟨cs, hblk⟩ := hblk
     have hfr := hblk.frozen s
     have hlr2 := hblk.lt
     have hO2 := hide (own_set1 hO.out (.bool (!b)) (k := s))
     have hK2 : Hid (Kept w6 (wr.setCell ⟨gA, s, none⟩ (.bool (!b))).drew (fun k => k = gA)) := (hK.out.setCell (p := ⟨gA, s, none⟩) (fun _ => rfl) _).drew
     have hfl : Hid (((flipK ac s).map Value.bool).set s (.bool (!b)) = (flipK ac (s + 1)).map Value.bool) := by
      show _ = _
      rw [flipK_succ hb, List.map_set]
     clear hb hblk hBr
     go_wp2_with fail
     refine Reg.cP [0, 1, 0, 0, 8, 0, 56, 120, 248, 511, 1023] ?_
     go_wp2_with fail
     refine ⟨⟨s + 1, by go_num, by omega, hK2, ?_⟩, by simp [intOf]; omega⟩
     rw [← hfl.out]
     exact hO2
    ·obtain rfl : s = la := by omega
     have hOf := hO.out
     rw [flipK_all (by rw [← hlaH.out]; exact Nat.le_refl _)] at hOf
     have hOw : OwnDF wr w.heap.size (.agg #[.slice AN lr cN, .slice (some ⟨gA, 0, none⟩) s cA]) t (ac.map (!·)) := by
      have hne : ∀ {e : TypeId} {g : Nat} {cs : Array Value}, e ≠ 4 → Blk w6 g e cs → g ≠ gA := by
       intro e g cs he hB hg
       subst hg
       rcases hA6.out.2 with ⟨h0, _⟩ | ⟨g', cap', cur, hv, hb, hh, _⟩
       ·cases h0
       ·injection hv with e1 _ _
        injection e1 with e1
        injection e1 with e1
        subst e1
        exact hB.ne_ hh he rfl
      refine ⟨_, _, ws, rfl, by rw [List.length_map, ← hlaH.out]; exact hOf, ?_, ?_⟩
      ·rw [← hlrH.out]
       exact own_ty hK.out hN6.out (fun g cs e hB => hne (by decide) hB e)
      ·exact hR6s.out.keep hK.out (fun g cs _ e hB => hne (by decide) hB e) (fun _ _ x => x) (Nat.le_refl _)
     have hCc := hide hCH.out.compl
     have hIDF := hOw.read (fun r hr => by have h1 := (hCH.out.ok.row r hr).1; have h2 := hL8H.out; omega) (by have h1 := hCH.out.ok.len; have h2 := haclH.out; omega) (by rw [List.length_map]; have h2 := haclH.out; omega)
     have hcall := haut.out wr _ t (ac.map (!·)) _ hIDF hCc.out (by rw [List.length_map]; exact haclH.out)
     have hb0r := hide (hb06H.out.trans (hK.out.below (by have := hb06H.out.size; omega) fun b hb e => by omega))
     have hRr := hide (hR6.out.kept hK.out (fun e => hgn2 e.symm))
     have hBxr := hBx6.out.kept hK.out (fun e => hgn3 e.symm)
     have hcxr := hBxr.cell
     clear hOf hOw hIDF hBxr hBr
     go_wp2_with fail
     refine Calls.ret hcall ?_
     rintro d w7 ⟨hb7, hI7⟩
     obtain ⟨A1', c1', A2', c2', A3', c3', rfl, -, -, -, -⟩ := hI7 w7 (Kept.refl _ _)
     have hR7 := hRr.out.below hb7
     have hf7 := hR7.frozen
     have hl7 := hR7.lt
     have hc7 := hR7.cell
     have hs7 := hb7.size
     have hs06 := hb0r.out.size
     generalize (plainW a.L t (ac.map (!·))).letters = x0 at hI7 ⊢
     generalize (plainW a.L t (ac.map (!·))).states = x1 at hI7 ⊢
     generalize (plainW a.L t (ac.map (!·))).start.length = n1 at hI7 ⊢
     generalize (plainW a.L t (ac.map (!·))).accept.length = n2 at hI7 ⊢
     generalize (plainW a.L t (ac.map (!·))).edges.length = n3 at hI7 ⊢
     obtain ⟨wF, hwF, hBF, hKF⟩ := set5_facts hR7 (.int .i64 x0) (.int .i64 x1) (.slice A1' n1 c1') (.slice A2' n2 c2') (.slice A3' n3 c3')
     have hBFc := hBF.cell
     have hbF := hide ((hb0r.out.trans (hb7.mono hs06)).trans (hKF.below (by omega) fun b hb e => by omega))
     have hlRr := hRr.out.lt
     have hfin := hide (fun w'' (hk : Kept wF w'' (fun k => k < w.heap.size)) => hI7 w'' ((hKF.mono (fun b _ e => by omega)).trans hk (fun b _ e => by omega)))
     unfold set5 at hwF
     clear hcall hI7 hR7 hBF hKF hb7
     go_wp2_with fail
     refine bodyPost_ret (v := .tuple #[.agg #[.int .i64 x0, .int .i64 x1, .slice A1' n1 c1', .slice A2' n2 c2', .slice A3' n3 c3'], .int .i64 0]) (by simp [results, Tryd.results37, go_sem, hBFc]) rfl ⟨hbF.out, .inr (.inr ⟨hokH.out, hnlH.out, t, ac, _, hCH.out, haclH.out, rfl, hfin.out⟩)⟩
end Go.Proofs.YtpmceapjnnkhjaaDoor
namespace Go.Proofs.YtpmceapjnnkhjaaDoor
open Go.RowKit
set_option maxHeartbeats 16000000
set_option maxRecDepth 100000
theorem ComRet.good {w w' : World} {a : WA} {r : Value} (h : ComRet w a r w') (hok : a.ok = true) (hnl : ¬ a.nf.Large 400) : Below w.heap.size w w' ∧ ∃ t ac d, CanT a.L t ac a.lang ∧ ac.length ≤ 400 ∧ r = .tuple #[d, .int .i64 0] ∧ ∀ w'', Kept w' w'' (fun k => k < w.heap.size) → IsWA w'' w''.heap.size d (plainW a.L t (ac.map (!·))) := by
 obtain ⟨hb, ⟨h1, -⟩ | ⟨-, h1, -⟩ | ⟨-, -, h1⟩⟩ := h
 ·rw [hok] at h1; cases h1
 ·exact (hnl h1).elim
 ·exact ⟨hb, h1⟩
theorem CombRet.good {op : Bool → Bool → Bool} {w w' : World} {a b : WA} {r : Value} (h : CombRet op w a b r w') (hok : a.both b = true) (hnl : ¬ BigJ a b) : Below w.heap.size w w' ∧ ∃ t ac d, CanT a.L t ac (fun z => op (a.lang z) (b.lang z)) ∧ ac.length ≤ 400 ∧ r = .tuple #[d, .int .i64 0] ∧ ∀ w'', Kept w' w'' (fun k => k < w.heap.size) → IsWA w'' w''.heap.size d (plainW a.L t ac) := by
 obtain ⟨hb, ⟨h1, -⟩ | ⟨-, h1, -⟩ | ⟨-, -, h1⟩⟩ := h
 ·rw [hok] at h1; cases h1
 ·exact (hnl h1).elim
 ·exact ⟨hb, h1⟩
theorem compl_again {L : Nat} {t t' : List (List Nat)} {ac ac' : List Bool} {Λ : List Nat → Bool} (hC : CanT L t ac Λ) (h : CanT (plainW L t ac).L t' ac' (plainW L t ac).lang) : plainW (plainW L t ac).L t' (ac'.map (!·)) = plainW L t (ac.map (!·)) := by
 rw [plainW_L] at h ⊢
 obtain ⟨rfl, rfl⟩ := h.unique hC fun w hw => by rw [plainW_lang hC.ok hw]; exact hC.can.lang w hw
 rfl
theorem can_plain {L : Nat} {t : List (List Nat)} {ac : List Bool} {Λ : List Nat → Bool} (hC : CanT L t ac Λ) {z : List Nat} (hz : okW L z) : (plainW L t ac).lang z = Λ z := by
 rw [plainW_lang hC.ok hz]
 exact hC.can.lang z hz
section
variable {a b : WA} {t ta tb ty : List (List Nat)} {ac aca bcb acy : List Bool}
theorem morgan_both (hbo : a.both b = true) (ha : CanT a.L ta aca a.lang) (hb : CanT b.L tb bcb b.lang) (hla : aca.length ≤ 400) (hlb : bcb.length ≤ 400) : (plainW a.L ta (aca.map (!·))).both (plainW b.L tb (bcb.map (!·))) = true := by
 obtain ⟨oka, okb, hle⟩ := WA.both_iff.1 hbo
 have h1 := (WA.ok_iff.1 oka).1
 have h2 := (WA.ok_iff.1 okb).1
 refine WA.both_iff.2 ⟨plainW_ok ha.compl.ok (by unfold WA.L; omega) (by unfold WA.L; omega) (by rw [List.length_map]; exact hla), plainW_ok hb.compl.ok (by unfold WA.L; omega) (by unfold WA.L; omega) (by rw [List.length_map]; exact hlb), ?_⟩
 show ((b.L : Nat) : Int) = ((a.L : Nat) : Int)
 unfold WA.L
 rw [hle]
theorem morgan_big (hnb : ¬ BigJ a b) (ha : CanT a.L ta aca a.lang) (hb : CanT b.L tb bcb b.lang) (hla : aca.length ≤ 400) (hlb : bcb.length ≤ 400) : ¬ BigJ (plainW a.L ta (aca.map (!·))) (plainW b.L tb (bcb.map (!·))) := by
 rintro (h | h | ⟨t', ac', u', bc', h1, h2, h3⟩)
 ·exact plainW_large ha.compl.ok (by rw [List.length_map]; exact hla) h
 ·exact plainW_large hb.compl.ok (by rw [List.length_map]; exact hlb) h
 ·rw [plainW_L] at h1 h2
  obtain ⟨-, rfl⟩ := h1.unique ha.compl fun w hw => can_plain ha.compl hw
  obtain ⟨-, rfl⟩ := h2.unique hb.compl fun w hw => can_plain hb.compl hw
  rw [List.length_map, List.length_map] at h3
  exact hnb (.inr (.inr ⟨ta, aca, tb, bcb, ha, hb, h3⟩))
theorem morgan_same (hbo : a.both b = true) (hC : CanT a.L t ac (fun z => a.lang z || b.lang z)) (ha : CanT a.L ta aca a.lang) (hb : CanT b.L tb bcb b.lang)
  (hy : CanT (plainW a.L ta (aca.map (!·))).L ty acy (fun z => (plainW a.L ta (aca.map (!·))).lang z && (plainW b.L tb (bcb.map (!·))).lang z)) : plainW (plainW a.L ta (aca.map (!·))).L ty acy = plainW a.L t (ac.map (!·)) := by
 obtain ⟨oka, okb, hle⟩ := WA.both_iff.1 hbo
 have hLL : b.L = a.L := by unfold WA.L; rw [hle]
 rw [plainW_L] at hy ⊢
 obtain ⟨rfl, rfl⟩ := hy.unique hC.compl fun w hw => by
  show ((plainW a.L ta (aca.map (!·))).lang w && (plainW b.L tb (bcb.map (!·))).lang w) = !(a.lang w || b.lang w)
  rw [can_plain ha.compl hw, can_plain hb.compl (by rw [hLL]; exact hw), Bool.not_or]
 rfl
end
theorem lay_box {w : World} {d : Value} {m : WA} (h : IsWA w w.heap.size d m) : ∃ E1 h1 E2 h2 E3 h3 w6, d = .agg #[.int .i64 m.letters, .int .i64 m.states, .slice E1 m.start.length h1, .slice E2 m.accept.length h2, .slice E3 m.edges.length h3] ∧
  w.alloc (.cells #[.int .i64 m.letters, .int .i64 m.states, .slice E1 m.start.length h1, .slice E2 m.accept.length h2, .slice E3 m.edges.length h3] 25) = w6 ∧ Below w.heap.size w w6 ∧ Blk w6 w.heap.size 25 #[.int .i64 m.letters, .int .i64 m.states, .slice E1 m.start.length h1, .slice E2 m.accept.length h2, .slice E3 m.edges.length h3] ∧
  IsWA w6 w6.heap.size (.agg #[.int .i64 m.letters, .int .i64 m.states, .slice E1 m.start.length h1, .slice E2 m.accept.length h2, .slice E3 m.edges.length h3]) m := by
 have h' := h
 obtain ⟨E1, h1, E2, h2, E3, h3, rfl, -⟩ := h'
 obtain ⟨w6, hw6, hb6, hB6, hk6⟩ := box_blk w #[.int .i64 m.letters, .int .i64 m.states, .slice E1 m.start.length h1, .slice E2 m.accept.length h2, .slice E3 m.edges.length h3] 25
 exact ⟨E1, h1, E2, h2, E3, h3, w6, rfl, hw6, hb6, hB6, h.keep (fun p hp => hb6.cell hp) hb6.size⟩
theorem lawMorgan {vA vB : Value} {a b : WA} {w : World} (hA : IsWA w w.heap.size vA a) (hB : IsWA w w.heap.size vB b) (hT : PowT w) :
  Calls Tryd.prog 14 #[vA, vB] w (Ret fun v w' => v = .bool true ∧ Below w.heap.size w w') := by
 have hAH := hide hA
 have hBH := hide hB
 obtain ⟨A1, c1, A2, c2, A3, c3, rfl, -⟩ := hA
 obtain ⟨B1, d1, B2, d2, B3, d3, rfl, -⟩ := hB
 obtain ⟨w1, hw1, hb1, hB1, hk1⟩ := box_blk w #[.int .i64 a.letters, .int .i64 a.states, .slice A1 a.start.length c1, .slice A2 a.accept.length c2, .slice A3 a.edges.length c3] 25
 obtain ⟨w2, hw2, hb2, hB2, hk2⟩ := box_blk w1 #[.int .i64 b.letters, .int .i64 b.states, .slice B1 b.start.length d1, .slice B2 b.accept.length d2, .slice B3 b.edges.length d3] 25
 have s1 := hb1.size
 have b02 := hide (hb1.trans (hb2.mono s1))
 have hBa2 := hide (hB1.below hb2)
 have hBb2 := hide hB2
 have hTH := hide hT
 have f1 := hBa2.out.cell
 have f2 := hBb2.out.cell
 have hbig := Big_any (hAH.out.keep (w' := w2) (fun p hp => b02.out.cell hp) b02.out.size)
 clear hk1 hk2 hb1 hb2 hB1 hB2 hT
 go_enter Tryd.func14, Tryd.ntmps14
 go_wp2_with fail
 refine Calls.ret hbig ?_
 rintro r w3 ⟨rfl, hb3⟩
 have b03 := hide (b02.out.trans (hb3.mono b02.out.size))
 have hBa3 := hide (hBa2.out.below (hb3.mono (Nat.le_refl _)))
 have hBb3 := hide (hBb2.out.below (hb3.mono (Nat.le_refl _)))
 have f3 := hBb3.out.cell
 have f4 := hBa3.out.cell
 clear hbig hb3 f1 f2
 cases hbg : a.big with
 | true =>
  have hkn := known_any (hTH.out.below b03.out)
  go_wp2_with fail
  refine Calls.ret hkn ?_
  rintro r wk ⟨rfl, hbk⟩
  have hbK := hide (b03.out.trans (hbk.mono b03.out.size))
  clear hkn hbk
  go_wp2_with fail
  go_ret
  exact ⟨rfl, hbK.out⟩
 | false =>
  obtain ⟨g1, g2, g3⟩ := WA.big_not hbg
  have hbig := Big_any (hBH.out.keep (w' := w3) (fun p hp => b03.out.cell hp) b03.out.size)
  clear hbg
  go_wp2_with fail
  refine Calls.ret hbig ?_
  rintro r w4 ⟨rfl, hb4⟩
  have b04 := hide (b03.out.trans (hb4.mono b03.out.size))
  have hBa4 := hide (hBa3.out.below (hb4.mono (Nat.le_refl _)))
  have hBb4 := hide (hBb3.out.below (hb4.mono (Nat.le_refl _)))
  have f1 := hBa4.out.cell
  have f2 := hBb4.out.cell
  clear hbig hb4 f3 f4
  cases hbg : b.big with
  | true =>
   have hkn := known_any (hTH.out.below b04.out)
   go_wp2_with fail
   refine Calls.ret hkn ?_
   rintro r wk ⟨rfl, hbk⟩
   have hbK := hide (b04.out.trans (hbk.mono b04.out.size))
   clear hkn hbk
   go_wp2_with fail
   go_ret
   exact ⟨rfl, hbK.out⟩
  | false =>
   obtain ⟨k1, k2, k3⟩ := WA.big_not hbg
   clear hbg
   have hun := union_any (hAH.out.keep (w' := w4) (fun p hp => b04.out.cell hp) b04.out.size) (hBH.out.keep (w' := w4) (fun p hp => b04.out.cell hp) b04.out.size) (by omega) (by omega) (by omega) (by omega) (hTH.out.below b04.out)
   have e1 : a.edges.length ≤ 3000000 := by omega
   have e2 : b.edges.length ≤ 3000000 := by omega
   have e3 : a.start.length ≤ 4000000 := by omega
   have e4 : b.start.length ≤ 4000000 := by omega
   have hE := hide (And.intro (And.intro e1 e3) (And.intro e2 e4))
   clear g1 g2 g3 k1 k2 k3 e1 e2 e3 e4
   go_wp2_with fail
   refine Calls.ret hun ?_
   rintro r w5 ⟨hb5, hcase⟩
   have b05 := hide (b04.out.trans (hb5.mono b04.out.size))
   have hBa5 := hide (hBa4.out.below (hb5.mono (Nat.le_refl _)))
   have hBb5 := hide (hBb4.out.below (hb5.mono (Nat.le_refl _)))
   clear hun hb5 f1 f2
   have hcase2 : (r = .tuple #[.agg zero25, .int .i64 1] ∨ r = .tuple #[.agg zero25, .int .i64 4]) ∨ (a.both b = true ∧ ¬ BigJ a b ∧ ∃ t ac d, CanT a.L t ac (fun z => a.lang z || b.lang z) ∧ ac.length ≤ 400 ∧ r = .tuple #[d, .int .i64 0] ∧ IsWA w5 w5.heap.size d (plainW a.L t ac)) := by
    rcases hcase with ⟨-, h⟩ | ⟨-, -, h⟩ | ⟨h1, h2, t, ac, d, h3, h4, h5, h6⟩
    ·exact .inl (.inl h)
    ·exact .inl (.inr h)
    ·exact .inr ⟨h1, h2, t, ac, d, h3, h4, h5, h6 w5 (Kept.refl _ _)⟩
   clear hcase
   rcases hcase2 with (rfl | rfl) | ⟨hbo, hnb, t, ac, d, hC, hac, rfl, hI⟩
   iterate 2
    ·simp only [zero25, sn0]
     obtain ⟨w6, w7, hw6, hw7, hB6, hB7, hb7⟩ := zero_box w5
     have b07 := hide (b05.out.trans (hb7.mono b05.out.size))
     have i1 := hB6.frozen
     have i2 := hB6.lt
     have i3 := hB6.cell
     have hkn := known_any (hTH.out.below b07.out)
     unfold set5 at hw7
     clear hB6 hB7 hb7
     go_wp2_with fail
     refine Calls.ret hkn ?_
     rintro r wk ⟨rfl, hbk⟩
     have hbK := hide (b07.out.trans (hbk.mono b07.out.size))
     clear hkn hbk
     go_wp2_with fail
     go_ret
     exact ⟨rfl, hbK.out⟩
   ·obtain ⟨oka, okb, hle⟩ := WA.both_iff.1 hbo
    have hsm := plain_small oka (t := t) hac
    have hmok : (plainW a.L t ac).ok = true := by
     have h1 := (WA.ok_iff.1 oka).1
     exact plainW_ok hC.ok (by unfold WA.L; omega) (by unfold WA.L; omega) hac
    have hmnl : ¬ (plainW a.L t ac).nf.Large 400 := plainW_large hC.ok hac
    have hnla : ¬ a.nf.Large 400 := fun h => hnb (.inl h)
    have hnlb : ¬ b.nf.Large 400 := fun h => hnb (.inr (.inl h))
    have hca := hide (fun (wx : World) (hb : Below w.heap.size w wx) => Complement_any (hAH.out.keep (w' := wx) (fun p hp => hb.cell hp) hb.size) hE.out.1.1 hE.out.1.2 (hTH.out.below hb))
    have hcb := hide (fun (wx : World) (hb : Below w.heap.size w wx) => Complement_any (hBH.out.keep (w' := wx) (fun p hp => hb.cell hp) hb.size) hE.out.2.1 hE.out.2.2 (hTH.out.below hb))
    have hag := hide (fun (t' : List (List Nat)) (ac' : List Bool) (h : CanT (plainW a.L t ac).L t' ac' (plainW a.L t ac).lang) => compl_again hC h)
    obtain ⟨m, hm⟩ : ∃ m, m = plainW a.L t ac := ⟨_, rfl⟩
    rw [← hm] at hI hsm hmok hmnl
    simp only [← hm] at hag
    have hmH := hide hm
    obtain ⟨E1, h1, E2, h2, E3, h3, w6, rfl, hw6, hb6, hB6, hI6⟩ := lay_box hI
    have b06 := hide (b05.out.trans (hb6.mono b05.out.size))
    have hBa6 := hide (hBa5.out.below (hb6.mono (Nat.le_refl _)))
    have hBb6 := hide (hBb5.out.below (hb6.mono (Nat.le_refl _)))
    have i3 := hB6.cell
    have hcall := Complement_any hI6 hsm.1 hsm.2 (hTH.out.below b06.out)
    have hP := hide (And.intro hmok hmnl)
    have hQ := hide (And.intro (And.intro oka hnla) (And.intro okb hnlb))
    have hR := hide (And.intro hbo hnb)
    have hCH := hide hC
    have hacH := hide hac
    have hlLH := hide hle
    clear oka okb hle hsm hmok hmnl hnla hnlb hm hI hb6 hB6 hI6 hbo hnb hC hac
    go_wp2_with fail
    refine Calls.ret hcall ?_
    intro r w8 hret
    obtain ⟨hb8, t2, ac2, dx, hC2, -, rfl, hI8⟩ := hret.good hP.out.1 hP.out.2
    have hI8 := hI8 w8 (Kept.refl _ _)
    rw [hag.out _ _ hC2] at hI8
    have b08 := hide (b06.out.trans (hb8.mono b06.out.size))
    have hBa8 := hide (hBa6.out.below (hb8.mono (Nat.le_refl _)))
    have hBb8 := hide (hBb6.out.below (hb8.mono (Nat.le_refl _)))
    obtain ⟨x, hx⟩ : ∃ x, x = plainW a.L t (ac.map (!·)) := ⟨_, rfl⟩
    rw [← hx] at hI8
    have hxH := hide hx
    obtain ⟨F1, f1, F2, f2, F3, f3, w9, rfl, hw9, hb9, hB9, hI9⟩ := lay_box hI8
    have b09 := hide (b08.out.trans (hb9.mono b08.out.size))
    have hBa9 := hide (hBa8.out.below (hb9.mono (Nat.le_refl _)))
    have hBb9 := hide (hBb8.out.below (hb9.mono (Nat.le_refl _)))
    have hBx9 := hide hB9
    have hIx9 := hide hI9
    have j3 := hBa9.out.cell
    have hcall := hca.out w9 b09.out
    clear hret hb8 hC2 hI8 hx hb9 hB9 hI9 i3
    go_wp2_with fail
    refine Calls.ret hcall ?_
    intro r w10 hret
    obtain ⟨hb10, ta, aca, da, hCa, hla, rfl, hI10⟩ := hret.good hQ.out.1.1 hQ.out.1.2
    have hI10 := hI10 w10 (Kept.refl _ _)
    have b010 := hide (b09.out.trans (hb10.mono b09.out.size))
    obtain ⟨C, hCe⟩ : ∃ C, C = plainW a.L ta (aca.map (!·)) := ⟨_, rfl⟩
    rw [← hCe] at hI10
    obtain ⟨G1, g1, G2, g2, G3, g3, w11, rfl, hw11, hb11, hB11, hI11⟩ := lay_box hI10
    have b1011 := hb10.trans (hb11.mono hb10.size)
    have b011 := hide (b09.out.trans (b1011.mono b09.out.size))
    have hBb11 := hide (hBb9.out.below (b1011.mono (Nat.le_refl _)))
    have hBx11 := hide (hBx9.out.below (b1011.mono (Nat.le_refl _)))
    have hIx11 := hide (hIx9.out.keep (w' := w11) (fun p hp => b1011.cell hp) b1011.size)
    have hBc11 := hide hB11
    have hIc11 := hide hI11
    have hCaH := hide hCa
    have hlaH := hide hla
    have hCeH := hide hCe
    have k3 := hBb11.out.cell
    have hcall := hcb.out w11 b011.out
    clear hret hb10 hCa hla hI10 hCe hb11 hB11 hI11 b1011 j3
    go_wp2_with fail
    refine Calls.ret hcall ?_
    intro r w12 hret
    obtain ⟨hb12, tb, bcb, db, hCb, hlb, rfl, hI12⟩ := hret.good hQ.out.2.1 hQ.out.2.2
    have hI12 := hI12 w12 (Kept.refl _ _)
    obtain ⟨D, hDe⟩ : ∃ D, D = plainW b.L tb (bcb.map (!·)) := ⟨_, rfl⟩
    rw [← hDe] at hI12
    obtain ⟨H1, l1, H2, l2, H3, l3, w13, rfl, hw13, hb13, hB13, hI13⟩ := lay_box hI12
    have b1213 := hb12.trans (hb13.mono hb12.size)
    have b013 := hide (b011.out.trans (b1213.mono b011.out.size))
    have hBx13 := hide (hBx11.out.below (b1213.mono (Nat.le_refl _)))
    have hIx13 := hide (hIx11.out.keep (w' := w13) (fun p hp => b1213.cell hp) b1213.size)
    have hBc13 := hide (hBc11.out.below (b1213.mono (Nat.le_refl _)))
    have hIc13 := hIc11.out.keep (w' := w13) (fun p hp => b1213.cell hp) b1213.size
    have k4 := hBc13.out.cell
    have k5 := hB13.cell
    have hbo2 := morgan_both hR.out.1 hCaH.out hCb hlaH.out hlb
    have hnb2 := morgan_big hR.out.2 hCaH.out hCb hlaH.out hlb
    have hsame := hide (fun (ty : List (List Nat)) (acy : List Bool) (h : CanT (plainW a.L ta (aca.map (!·))).L ty acy (fun z => (plainW a.L ta (aca.map (!·))).lang z && (plainW b.L tb (bcb.map (!·))).lang z)) => morgan_same hR.out.1 hCH.out hCaH.out hCb h)
    have smC := plain_small hQ.out.1.1 (t := ta) (ac := aca.map (!·)) (by rw [List.length_map]; exact hlaH.out)
    have smD := plain_small hQ.out.2.1 (t := tb) (ac := bcb.map (!·)) (by rw [List.length_map]; exact hlb)
    rw [← hCeH.out] at hbo2 hnb2 smC
    rw [← hDe] at hbo2 hnb2 smD
    simp only [← hCeH.out, ← hDe, ← hxH.out] at hsame
    have hcall := inter_any hIc13 hI13 smC.1 smC.2 smD.1 smD.2 (hTH.out.below b013.out)
    have hBN := hide (And.intro hbo2 hnb2)
    clear hret hb12 hCb hlb hI12 hDe hb13 hB13 hI13 b1213 hbo2 hnb2 smC smD hIc13 k3
    go_wp2_with fail
    refine Calls.ret hcall ?_
    intro r w14 hret
    obtain ⟨hb14, ty, acy, dy, hCy, -, rfl, hI14⟩ := hret.good hBN.out.1 hBN.out.2
    have hI14 := hI14 w14 (Kept.refl _ _)
    rw [hsame.out _ _ hCy] at hI14
    obtain ⟨M1, m1, M2, m2, M3, m3, w15, rfl, hw15, hb15, hB15, hI15⟩ := lay_box hI14
    have b1415 := hb14.trans (hb15.mono hb14.size)
    have b015 := hide (b013.out.trans (b1415.mono b013.out.size))
    have hIx15 := hIx13.out.keep (w' := w15) (fun p hp => b1415.cell hp) b1415.size
    have k6 := (hBx13.out.below (b1415.mono (Nat.le_refl _))).cell
    have k7 := hB15.cell
    have hsa := sameAutomaton_any hIx15 hI15
    rw [decide_eq_true (rfl : x = x)] at hsa
    clear hret hb14 hCy hI14 hb15 hB15 hI15 b1415 k4 k5 hIx15
    go_wp2_with fail
    refine Calls.ret hsa ?_
    rintro r w16 ⟨rfl, hb16⟩
    have b016 := hide (b015.out.trans (hb16.mono b015.out.size))
    have hkn := known_any (hTH.out.below b016.out)
    clear hsa hb16
    go_wp2_with fail
    refine Calls.ret hkn ?_
    rintro r wk ⟨rfl, hbk⟩
    have hbK := hide (b016.out.trans (hbk.mono b016.out.size))
    clear hkn hbk
    go_wp2_with fail
    go_ret
    exact ⟨rfl, hbK.out⟩
end Go.Proofs.YtpmceapjnnkhjaaDoor
