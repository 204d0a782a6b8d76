/-
  Part MO of a proof.
-/
import Derived.Test.YtpmceapjnnkhjaaDoorPA
import Derived.Test.YtpmceapjnnkhjaaDoorMN
import Derived.Test.YtpmceapjnnkhjaaDoorML
import Derived.Test.YtpmceapjnnkhjaaDoorMI
import Derived.Test.YtpmceapjnnkhjaaDoorME
set_option maxHeartbeats 16000000
set_option maxRecDepth 100000
set_option linter.unusedVariables false
set_option linter.unusedSimpArgs false
namespace Go.Proofs.YtpmceapjnnkhjaaDoor
open Go.RowKit
set_option maxHeartbeats 16000000
set_option maxRecDepth 100000
def zeroA : WA := ⟨0, 0, [], [], []⟩
theorem zeroA_is (w : World) : IsWA w w.heap.size (.agg zero25) zeroA := ⟨none, 0, none, 0, none, 0, rfl, Sl.nil rfl, Sl.nil rfl, Sl.nil rfl, Nat.le_refl _⟩
theorem MinRet.split {w w' : World} {a : WA} {r : Value} (h : MinRet w a r w') : Below w.heap.size w w' ∧ ∃ (mm : WA) (e : Int) (d : Value), r = .tuple #[d, .int .i64 e] ∧ IsWA w' w'.heap.size d mm ∧
  ((e = 1 ∧ a.ok = false) ∨ (e = 4 ∧ a.ok = true ∧ a.nf.Large 400) ∨ (e = 0 ∧ a.ok = true ∧ ¬ a.nf.Large 400 ∧ ∃ t ac, CanT a.L t ac a.lang ∧ ac.length ≤ 400 ∧ mm = plainW a.L t ac)) := by
 obtain ⟨hb, ⟨h1, rfl⟩ | ⟨h1, h2, rfl⟩ | ⟨h1, h2, t, ac, d, hC, hac, rfl, hI⟩⟩ := h
 ·exact ⟨hb, zeroA, 1, _, rfl, zeroA_is _, .inl ⟨rfl, h1⟩⟩
 ·exact ⟨hb, zeroA, 4, _, rfl, zeroA_is _, .inr (.inl ⟨rfl, h1, h2⟩)⟩
 ·exact ⟨hb, plainW a.L t ac, 0, d, rfl, hI w' (Kept.refl _ _), .inr (.inr ⟨rfl, h1, h2, t, ac, hC, hac, rfl⟩)⟩
theorem refComplement_any {v : Value} {a : WA} {w : World} (h : IsWA w w.heap.size v a) :
  Calls Tryd.prog 38 #[v] w (Ret fun r w' => ComRet w a r w') := by
 have hWA := hide h
 obtain ⟨A1, c1, A2, c2, A3, c3, rfl, -⟩ := h
 obtain ⟨w1, hw1, hb1, hB1, hk1⟩ := box_blk w #[.int .i64 a.letters, .int .i64 a.states, .slice A1 a.start.length c1, .slice A2 a.accept.length c2, .slice A3 a.edges.length c3] 25
 obtain ⟨w2, hw2, hb2, hB2, hk2⟩ := box_blk w1 zero25 25
 have hs1 := hb1.size
 have b02 := hide (hb1.trans (hb2.mono hs1))
 have hs2 := b02.out.size
 have hBx := hide (hB1.below hb2)
 have hR := hide hB2
 have hc2 := hBx.out.cell
 have hl1 := hB1.lt
 have hcall := refMinimal_any (hWA.out.keep (w' := w2) (fun p hp => b02.out.cell hp) hs2)
 clear hb1 hB1 hk1 hb2 hB2 hk2
 go_enter Tryd.func38, Tryd.ntmps38
 go_wp2_with fail
 refine Calls.ret hcall ?_
 intro r w3 hret
 obtain ⟨hb3, mm, e, d, rfl, hI3, hcase⟩ := hret.split
 have hbo := lay_box hI3
 obtain ⟨E1, h1, E2, h2, E3, h3, w4, rfl, hw4, hb4, hB4, hI4⟩ := hbo
 have b24 := hb3.trans (hb4.mono hb3.size)
 have b04 := hide (b02.out.trans (b24.mono hs2))
 have hBx4 := hide (hBx.out.below b24)
 have hR4 := hide (hR.out.below b24)
 have hI4H := hide hI4
 have hBm4 := hide hB4
 have hlr4 := hR4.out.lt
 clear hcall hret hb3 hI3 hb4 hB4 hI4 b24 hc2
 have herr : ∀ {e : Int}, e ≠ 0 → True := fun _ => trivial
 rcases hcase with ⟨rfl, hok⟩ | ⟨rfl, hok, hLg⟩ | ⟨rfl, hok, hnl, t, ac, hC, hac, hm⟩
 ·have hokH := hide hok
  have hf3 := hR4.out.frozen
  have hl3 := hR4.out.lt
  have hc3 := hR4.out.cell
  obtain ⟨wF, hwF, hBF, hKF⟩ := set5_facts hR4.out (.int .i64 0) (.int .i64 0) sn0 sn0 sn0
  have hBFc := hBF.cell
  have hbF := hide (b04.out.trans (hKF.below b04.out.size fun b hb e => by omega))
  unfold set5 at hwF
  clear hBF hKF hok
  go_wp2_with fail
  refine bodyPost_ret (v := .tuple #[.agg zero25, .int .i64 1]) (by simp [results, Tryd.results38, go_sem, hBFc]) rfl ⟨hbF.out, .inl ⟨hokH.out, rfl⟩⟩
 ·have hokH := hide hok
  have hLgH := hide hLg
  have hf3 := hR4.out.frozen
  have hl3 := hR4.out.lt
  have hc3 := hR4.out.cell
  obtain ⟨wF, hwF, hBF, hKF⟩ := set5_facts hR4.out (.int .i64 0) (.int .i64 0) sn0 sn0 sn0
  have hBFc := hBF.cell
  have hbF := hide (b04.out.trans (hKF.below b04.out.size fun b hb e => by omega))
  unfold set5 at hwF
  clear hBF hKF hok hLg
  go_wp2_with fail
  refine bodyPost_ret (v := .tuple #[.agg zero25, .int .i64 4]) (by simp [results, Tryd.results38, go_sem, hBFc]) rfl ⟨hbF.out, .inr (.inl ⟨hokH.out, hLgH.out, rfl⟩)⟩
 ·have hbd := (WA.ok_iff.1 hok).1
  have hLl : a.letters = (a.L : Int) := by unfold WA.L; omega
  have hL1 : 1 ≤ a.L := by unfold WA.L; omega
  have hL8 : a.L ≤ 8 := by unfold WA.L; omega
  have hC8H := hide (And.intro hL1 hL8)
  have hpos := hC.ok.pos
  have hcm := hBm4.out.cell
  have htab := table_any (w := w4) (v := .agg #[.int .i64 mm.letters, .int .i64 mm.states, .slice E1 mm.start.length h1, .slice E2 mm.accept.length h2, .slice E3 mm.edges.length h3]) (L := a.L) (t := t) (ac := ac) (by rw [← hm]; exact hI4H.out) hC.ok (by omega) hL1 hL8
  rw [hLl] at hBx4
  have hBxH := hide hBx4.out
  have hokH := hide hok
  have hnlH := hide hnl
  have hCH := hide hC
  have hacH := hide hac
  clear hok hnl hC hac hm hbd hLl hL1 hL8 hBx4
  go_wp2_with fail
  refine Calls.ret htab ?_
  rintro r w5 ⟨hb5, hOw⟩
  obtain ⟨vN, vA, ws, rfl, hA, hN, hRows⟩ := hOw
  obtain ⟨b0, hb0⟩ := get_lt hpos
  obtain ⟨gA, cA, rfl, -⟩ := own_get hA (map_get (f := Value.bool) hb0)
  obtain ⟨AN, cN, rfl⟩ := slice_of_own hN
  obtain ⟨w5a, w6, hw5a, hw6, hB5a, hB6, hb6, hl6⟩ := one_boxR w5 (.slice AN t.length cN) (.slice (some ⟨gA, 0, none⟩) ac.length cA)
  have hs5 := hb5.size
  have b46 := hb5.trans (hb6.mono hs5)
  have hf5 := hB5a.frozen
  have hl5 := hB5a.lt
  have hc5 := hB5a.cell
  have hs04 := b04.out.size
  have hs6 := hb6.size
  have hgA := own_base hA (k := gA) rfl
  have hgl := own_lt hA (k := gA) rfl
  have hA6 : Hid (w6.ownsRow w.heap.size 4 1 (.slice (some ⟨gA, 0, none⟩) ac.length cA) ac.length ((flipK ac 0).map Value.bool)) := by
   rw [flipK_zero]
   exact own_mono (own_below hA hb6) hs04
  have hN6 := hide (own_mono (own_below hN hb6) (base' := w.heap.size) hs04)
  have hR6s := hide (hRows.keep (w' := w6) (X := fun _ => False) (Kept.of_below hb6 (fun _ => False)) (fun _ _ _ e => e.elim) (fun _ _ x => x) hs04)
  have b06 := hide (b04.out.trans (b46.mono hs04))
  have hR6 := hide (hR4.out.below b46)
  have hBx6 := hide (hBxH.out.below b46)
  have hB6H := hide hB6
  have hc6 := hB6.cell
  have hge1 : w.heap.size ≤ gA := by omega
  have hge2 : gA < w6.heap.size := by omega
  have hgne : gA ≠ w5.heap.size := by omega
  have hgn2 : gA ≠ w1.heap.size := by omega
  have hlx := hBxH.out.lt
  have hgn3 : gA ≠ w.heap.size := by omega
  obtain ⟨lr, hlr⟩ : ∃ lr, lr = t.length := ⟨_, rfl⟩
  obtain ⟨la, hla⟩ : ∃ la, la = ac.length := ⟨_, rfl⟩
  rw [← hlr] at hw6 hc6 hN6 hB6H ⊢
  rw [← hla] at hw6 hc6 hA6 hB6H ⊢
  have hla9 : la ≤ 400 := by rw [hla]; exact hacH.out
  have hlaH := hide hla
  have hlrH := hide hlr
  unfold set2 at hw6
  clear hA hN hRows hB6 hB5a b46 hlr hla hpos hb0 htab hb5 hb6 hcm
  go_wp2_with fail
  go_loopw [7] (fun ii wr => ∃ (s : Nat), ii = .int .i64 (s : Int) ∧ s ≤ la ∧ Hid (Kept w6 wr (fun k => k = gA)) ∧ Hid (wr.ownsRow w.heap.size 4 1 (.slice (some ⟨gA, 0, none⟩) la cA) la ((flipK ac s).map Value.bool))) (fun ii _ => la - (intOf ii).toNat)
  case atStart => exact ⟨0, rfl, Nat.zero_le _, hide (Kept.refl _ _), hA6⟩
  case round =>
   obtain ⟨s, rfl, hs, hK, hO⟩ := hrel
   have hBr := hB6H.out.kept hK.out (fun e => hgne e.symm)
   have hcr := hBr.cell
   by_cases hlt : s < la
   ·obtain ⟨b, hb⟩ := get_lt (l := ac) (i := s) (by rw [← hlaH.out]; exact hlt)
    obtain ⟨g', cap', hv', hcb⟩ := own_get hO.out (map_get (f := Value.bool) (flipK_at hb))
    injection hv' with e1 e2 e3
    injection e1 with e1
    injection e1 with e1
    subst e1 e3
    have hblk : ∃ cs, Blk wr gA 4 cs := by
     rcases hO.out.2 with ⟨h0, _⟩ | ⟨g', cap', cur, hv, hb, hh, _⟩
     ·cases h0
     ·injection hv with e1 _ _
      injection e1 with e1
      injection e1 with e1
      subst e1
      exact ⟨cur, hh⟩
    obtain ⟨cs, hblk⟩ := hblk
    have hfr := hblk.frozen s
    have hlr2 := hblk.lt
    have hO2 := hide (own_set1 hO.out (.bool (!b)) (k := s))
    have hK2 : Hid (Kept w6 (wr.setCell ⟨gA, s, none⟩ (.bool (!b))).drew (fun k => k = gA)) := (hK.out.setCell (p := ⟨gA, s, none⟩) (fun _ => rfl) _).drew
    have hfl : Hid (((flipK ac s).map Value.bool).set s (.bool (!b)) = (flipK ac (s + 1)).map Value.bool) := by
     show _ = _
     rw [flipK_succ hb, List.map_set]
    clear hb hblk hBr
    go_wp2_with fail
    refine Reg.cP [0, 1, 0, 0, 8, 0, 56, 120, 248, 511, 1023] ?_
    go_wp2_with fail
    refine ⟨⟨s + 1, by go_num, by omega, hK2, ?_⟩, by simp [intOf]; omega⟩
    rw [← hfl.out]
    exact hO2
   ·obtain rfl : s = la := by omega
    have hOf := hO.out
    rw [flipK_all (by rw [← hlaH.out]; exact Nat.le_refl _)] at hOf
    have hOw : OwnDF wr w.heap.size (.agg #[.slice AN lr cN, .slice (some ⟨gA, 0, none⟩) s cA]) t (ac.map (!·)) := by
     have hne : ∀ {e : TypeId} {g : Nat} {cs : Array Value}, e ≠ 4 → Blk w6 g e cs → g ≠ gA := by
      intro e g cs he hB hg
      subst hg
      rcases hA6.out.2 with ⟨h0, _⟩ | ⟨g', cap', cur, hv, hb, hh, _⟩
      ·cases h0
      ·injection hv with e1 _ _
       injection e1 with e1
       injection e1 with e1
       subst e1
       exact hB.ne_ hh he rfl
     refine ⟨_, _, ws, rfl, by rw [List.length_map, ← hlaH.out]; exact hOf, ?_, ?_⟩
     ·rw [← hlrH.out]
      exact own_ty hK.out hN6.out (fun g cs e hB => hne (by decide) hB e)
     ·exact hR6s.out.keep hK.out (fun g cs _ e hB => hne (by decide) hB e) (fun _ _ x => x) (Nat.le_refl _)
    have hCc := hide hCH.out.compl
    have hIDF := hOw.read (fun r hr => by have h1 := (hCH.out.ok.row r hr).1; have h2 := hC8H.out.2; omega) (by have h1 := hCH.out.ok.len; have h2 := hacH.out; omega) (by rw [List.length_map]; have h2 := hacH.out; omega)
    have hcall := refcanon_any (w := wr) (L := a.L) (n := s) (vN := .slice AN lr cN) (vA := .slice (some ⟨gA, 0, none⟩) s cA) ⟨hIDF, hCc.out.ok, by rw [List.length_map]; exact hlaH.out.symm⟩ (by have h1 := hlaH.out; have h2 := hacH.out; omega) hC8H.out.2
    have hb0r := hide (b06.out.trans (hK.out.below (by have := b06.out.size; omega) fun b hb e => by omega))
    have hRr := hide (hR6.out.kept hK.out (fun e => hgn2 e.symm))
    have hBxr := hBx6.out.kept hK.out (fun e => hgn3 e.symm)
    have hcxr := hBxr.cell
    clear hOf hOw hIDF hBxr hBr
    go_wp2_with fail
    refine Calls.ret hcall ?_
    rintro d w7 ⟨hb7, t7, ac7, hC7, -, hI7⟩
    obtain ⟨rfl, rfl⟩ := hC7.unique hCc.out fun z hz => hCc.out.can.lang z hz
    obtain ⟨A1', c1', A2', c2', A3', c3', rfl, -, -, -, -⟩ := hI7 w7 (Kept.refl _ _)
    have hR7 := hRr.out.below hb7
    have hf7 := hR7.frozen
    have hl7 := hR7.lt
    have hc7 := hR7.cell
    have hs7 := hb7.size
    have hs06 := hb0r.out.size
    generalize (plainW a.L t7 (ac.map (!·))).letters = x0 at hI7 ⊢
    generalize (plainW a.L t7 (ac.map (!·))).states = x1 at hI7 ⊢
    generalize (plainW a.L t7 (ac.map (!·))).start.length = n1 at hI7 ⊢
    generalize (plainW a.L t7 (ac.map (!·))).accept.length = n2 at hI7 ⊢
    generalize (plainW a.L t7 (ac.map (!·))).edges.length = n3 at hI7 ⊢
    obtain ⟨wF, hwF, hBF, hKF⟩ := set5_facts hR7 (.int .i64 x0) (.int .i64 x1) (.slice A1' n1 c1') (.slice A2' n2 c2') (.slice A3' n3 c3')
    have hBFc := hBF.cell
    have hbF := hide ((hb0r.out.trans (hb7.mono hs06)).trans (hKF.below (by omega) fun b hb e => by omega))
    have hlRr := hRr.out.lt
    have hfin := hide (fun w'' (hk : Kept wF w'' (fun k => k < w.heap.size)) => hI7 w'' ((hKF.mono (fun b _ e => by omega)).trans hk (fun b _ e => by omega)))
    unfold set5 at hwF
    clear hcall hI7 hR7 hBF hKF hb7 hC7
    go_wp2_with fail
    refine bodyPost_ret (v := .tuple #[.agg #[.int .i64 x0, .int .i64 x1, .slice A1' n1 c1', .slice A2' n2 c2', .slice A3' n3 c3'], .int .i64 0]) (by simp [results, Tryd.results38, go_sem, hBFc]) rfl ⟨hbF.out, .inr (.inr ⟨hokH.out, hnlH.out, t7, ac, _, hCH.out, hacH.out, rfl, hfin.out⟩)⟩
end Go.Proofs.YtpmceapjnnkhjaaDoor
namespace Go.Proofs.YtpmceapjnnkhjaaDoor
open Go.RowKit
set_option maxHeartbeats 16000000
set_option maxRecDepth 100000
theorem ComRet.get {w w' : World} {a : WA} {r : Value} (h : ComRet w a r w') : Below w.heap.size w w' ∧ ∃ (mm : WA) (e : Int) (d : Value), r = .tuple #[d, .int .i64 e] ∧ IsWA w' w'.heap.size d mm ∧
  (∀ (w2 w2' : World) (r2 : Value), ComRet w2 a r2 w2' → Below w2.heap.size w2 w2' ∧ ∃ d2, r2 = .tuple #[d2, .int .i64 e] ∧ IsWA w2' w2'.heap.size d2 mm) ∧
  ((e = 1 ∨ e = 4) ∨ (e = 0 ∧ a.ok = true ∧ ∃ t ac, CanT a.L t ac a.lang ∧ ac.length ≤ 400 ∧ mm = plainW a.L t (ac.map (!·)))) := by
 obtain ⟨hb, ⟨h1, rfl⟩ | ⟨h1, h2, rfl⟩ | ⟨h1, h2, t, ac, d, hC, hac, rfl, hI⟩⟩ := h
 ·refine ⟨hb, zeroA, 1, _, rfl, zeroA_is _, fun w2 w2' r2 h' => ?_, .inl (.inl rfl)⟩
  obtain ⟨hb', ⟨-, rfl⟩ | ⟨g1, -, -⟩ | ⟨g1, -, -⟩⟩ := h'
  ·exact ⟨hb', _, rfl, zeroA_is _⟩
  ·rw [h1] at g1; cases g1
  ·rw [h1] at g1; cases g1
 ·refine ⟨hb, zeroA, 4, _, rfl, zeroA_is _, fun w2 w2' r2 h' => ?_, .inl (.inr rfl)⟩
  obtain ⟨hb', ⟨g1, -⟩ | ⟨-, -, rfl⟩ | ⟨-, g1, -⟩⟩ := h'
  ·rw [h1] at g1; cases g1
  ·exact ⟨hb', _, rfl, zeroA_is _⟩
  ·exact (g1 h2).elim
 ·refine ⟨hb, plainW a.L t (ac.map (!·)), 0, d, rfl, hI w' (Kept.refl _ _), fun w2 w2' r2 h' => ?_, .inr ⟨rfl, h1, t, ac, hC, hac, rfl⟩⟩
  obtain ⟨hb', ⟨g1, -⟩ | ⟨-, g1, -⟩ | ⟨-, -, t', ac', d', hC', -, rfl, hI'⟩⟩ := h'
  ·rw [h1] at g1; cases g1
  ·exact (h2 g1).elim
  ·obtain ⟨rfl, rfl⟩ := hC'.unique hC fun _ _ => rfl
   exact ⟨hb', d', rfl, hI' w2' (Kept.refl _ _)⟩
theorem lawComplements {vA : Value} {a : WA} {w : World} {A : Option Addr} {c : Nat} {l : List Int} (hA : IsWA w w.heap.size vA a) (hl : Sl w w.heap.size 1 encI A l) (hT : PowT w) :
  Calls Tryd.prog 10 #[vA, .slice A l.length c] w (Ret fun v w' => v = .bool true ∧ Below w.heap.size w w') := by
 have hAH := hide hA
 obtain ⟨A1, c1, A2, c2, A3, c3, rfl, -⟩ := hA
 obtain ⟨w1, hw1, hb1, hB1, hk1⟩ := box_blk w #[.int .i64 a.letters, .int .i64 a.states, .slice A1 a.start.length c1, .slice A2 a.accept.length c2, .slice A3 a.edges.length c3] 25
 have b01 := hide hb1
 have hBa1 := hide hB1
 have hTH := hide hT
 have hlH := hide hl
 have hln := hl.1
 have f1 := hBa1.out.cell
 have hbig := Big_any (hAH.out.keep (w' := w1) (fun p hp => b01.out.cell hp) b01.out.size)
 obtain ⟨n, hn⟩ : ∃ n, n = l.length := ⟨_, rfl⟩
 have hnH := hide hn
 rw [← hn] at hln ⊢
 clear hk1 hb1 hB1 hT hl hn
 go_enter Tryd.func10, Tryd.ntmps10
 go_wp2_with fail
 refine Calls.ret hbig ?_
 rintro r w3 ⟨rfl, hb3⟩
 have b03 := hide (b01.out.trans (hb3.mono b01.out.size))
 have hBa3 := hide (hBa1.out.below (hb3.mono (Nat.le_refl _)))
 have f3 := hBa3.out.cell
 clear hbig hb3 f1
 cases hbg : a.big with
 | true =>
  have hkn := known_any (hTH.out.below b03.out)
  go_wp2_with fail
  refine Calls.ret hkn ?_
  rintro r wk ⟨rfl, hbk⟩
  have hbK := hide (b03.out.trans (hbk.mono b03.out.size))
  clear hkn hbk
  go_wp2_with fail
  go_ret
  exact ⟨rfl, hbK.out⟩
 | false =>
  obtain ⟨g1, g2, g3⟩ := WA.big_not hbg
  clear hbg
  by_cases hlen : 100 < n
  ·clear f3
   have hkn := known_any (hTH.out.below b03.out)
   go_wp2_with fail
   refine Calls.ret hkn ?_
   rintro r wk ⟨rfl, hbk⟩
   have hbK := hide (b03.out.trans (hbk.mono b03.out.size))
   clear hkn hbk
   go_wp2_with fail
   go_ret
   exact ⟨rfl, hbK.out⟩
  ·have e1 : a.edges.length ≤ 3000000 := by omega
   have e3 : a.start.length ≤ 4000000 := by omega
   have hE := hide (And.intro e1 e3)
   have hcall := Complement_any (hAH.out.keep (w' := w3) (fun p hp => b03.out.cell hp) b03.out.size) e1 e3 (hTH.out.below b03.out)
   clear g1 g2 g3 e1 e3
   go_wp2_with fail
   refine Calls.ret hcall ?_
   intro r w4 hret
   obtain ⟨hb4, mm, e, d, rfl, hI4, hoth, hcase⟩ := hret.get
   have hothH := hide hoth
   have hcaseH := hide hcase
   have hbo := lay_box hI4
   obtain ⟨E1, h1, E2, h2, E3, h3, w5, rfl, hw5, hb5, hB5, hI5⟩ := hbo
   have b35 := hb4.trans (hb5.mono hb4.size)
   have b05 := hide (b03.out.trans (b35.mono b03.out.size))
   have hBa5 := hide (hBa3.out.below (b35.mono (Nat.le_refl _)))
   have hBm5 := hide hB5
   have hIm5 := hide hI5
   have f5 := hBa5.out.cell
   have hcall2 := refComplement_any (hAH.out.keep (w' := w5) (fun p hp => b05.out.cell hp) b05.out.size)
   clear hcall hret hb4 hI4 hoth hcase hb5 hB5 hI5 b35 f3
   go_wp2_with fail
   refine Calls.ret hcall2 ?_
   intro r w6 hret
   obtain ⟨hb6, d2, rfl, hI6⟩ := hothH.out w5 w6 r hret
   have hbo := lay_box hI6
   obtain ⟨G1, g1, G2, g2, G3, g3, w7, rfl, hw7, hb7, hB7, hI7⟩ := hbo
   have b57 := hb6.trans (hb7.mono hb6.size)
   have b07 := hide (b05.out.trans (b57.mono b05.out.size))
   have hBa7 := hide (hBa5.out.below (b57.mono (Nat.le_refl _)))
   have hBm7 := hide (hBm5.out.below (b57.mono (Nat.le_refl _)))
   have hIm7 := hide (hIm5.out.keep (w' := w7) (fun p hp => b57.cell hp) b57.size)
   have f7 := hBm7.out.cell
   have f8 := hB7.cell
   have hsa := sameAutomaton_any hIm7.out hI7
   rw [decide_eq_true (rfl : mm = mm)] at hsa
   have hee : (e == e) = true := by simp
   clear hcall2 hret hb6 hI6 hb7 hB7 hI7 b57 f5
   go_wp2_with fail
   refine Calls.ret hsa ?_
   rintro r w8 ⟨rfl, hb8⟩
   have b08 := hide (b07.out.trans (hb8.mono b07.out.size))
   have hBa8 := hide (hBa7.out.below (hb8.mono (Nat.le_refl _)))
   have hBm8 := hide (hBm7.out.below (hb8.mono (Nat.le_refl _)))
   have hIm8 := hide (hIm7.out.keep (w' := w8) (fun p hp => hb8.cell hp) hb8.size)
   have i8 := hBa8.out.cell
   have hcall := Accepts_any (c := c) (hAH.out.keep (w' := w8) (fun p hp => b08.out.cell hp) b08.out.size) hE.out.1 hE.out.2 (hlH.out.keep (w' := w8) (fun p hp => b08.out.cell hp) (Nat.le_refl _)) b08.out.size
   rw [← hnH.out] at hcall
   unfold WA.accR at hcall
   clear hsa hb8 f7 f8
   have hcase := hcaseH.out
   rcases hcase with (rfl | rfl) | ⟨rfl, oka, t, ac, hC, hac, hm⟩
   iterate 2
    ·generalize a.acc l = x1 at hcall
     generalize errno (a.accV l) = e1 at hcall
     clear hee
     go_wp2_with fail
     refine Calls.ret hcall ?_
     rintro r w11 ⟨rfl, hb11⟩
     have b011 := hide (b08.out.trans (hb11.mono b08.out.size))
     clear hcall hb11 i8
     have hkn := known_any (hTH.out.below b011.out)
     go_wp2_with fail
     refine Calls.ret hkn ?_
     rintro r wk ⟨rfl, hbk⟩
     have hbK := hide (b011.out.trans (hbk.mono b011.out.size))
     clear hkn hbk
     go_wp2_with fail
     go_ret
     exact ⟨rfl, hbK.out⟩
   ·have hsm := plain_small oka (t := t) (ac := ac.map (!·)) (by rw [List.length_map]; exact hac)
    have hplA := hide (fun (v : List Nat) (hv : okW a.L v) => plain_acc oka hC.compl (by rw [List.length_map]; exact hac) hv)
    rw [← hm] at hsm hplA
    have hsmH := hide hsm
    have hokaH := hide oka
    clear hsm hC hac hm hee
    rcases a.acc_cases hokaH.out l with ⟨q1, q2⟩ | ⟨v, hlv, hv, q1, q2⟩
    ·rw [q1, q2, show errno false = 1 from rfl] at hcall
     clear q1 q2 oka
     go_wp2_with fail
     refine Calls.ret hcall ?_
     rintro r w11 ⟨rfl, hb11⟩
     have b011 := hide (b08.out.trans (hb11.mono b08.out.size))
     clear hcall hb11 i8
     have hkn := known_any (hTH.out.below b011.out)
     go_wp2_with fail
     refine Calls.ret hkn ?_
     rintro r wk ⟨rfl, hbk⟩
     have hbK := hide (b011.out.trans (hbk.mono b011.out.size))
     clear hkn hbk
     go_wp2_with fail
     go_ret
     exact ⟨rfl, hbK.out⟩
    ·obtain ⟨-, u1, u2⟩ := hplA.out v hv
     rw [q1, q2, show errno true = 0 from rfl] at hcall
     have hur : Hid (mm.accR l = .tuple #[.bool (!a.lang v), .int .i64 0]) := by show _ = _; unfold WA.accR; rw [hlv, u1, u2]; rfl
     clear q1 q2 u1 u2 hv oka
     generalize a.lang v = x at *
     go_wp2_with fail
     refine Calls.ret hcall ?_
     rintro r w11 ⟨rfl, hb11⟩
     have b011 := hide (b08.out.trans (hb11.mono b08.out.size))
     have hI11 := hide (hIm8.out.keep (w' := w11) (fun p hp => hb11.cell hp) hb11.size)
     have j4 := (hBm8.out.below (hb11.mono (Nat.le_refl _))).cell
     clear hcall hb11 i8
     have hcall := Accepts_any (c := c) hI11.out hsmH.out.1 hsmH.out.2 (hlH.out.keep (w' := w11) (fun p hp => b011.out.cell hp) (Nat.le_refl _)) b011.out.size
     rw [← hnH.out, hur.out] at hcall
     go_wp2_with fail
     refine Calls.ret hcall ?_
     rintro r w13 ⟨rfl, hb13⟩
     have b013 := hide (b011.out.trans (hb13.mono b011.out.size))
     clear hcall hb13 j4
     have hkn := known_any (hTH.out.below b013.out)
     cases x
     all_goals
      go_wp2_with fail
      refine Calls.ret hkn ?_
      rintro r wk ⟨rfl, hbk⟩
      have hbK := hide (b013.out.trans (hbk.mono b013.out.size))
      clear hkn hbk
      go_wp2_with fail
      go_ret
      exact ⟨rfl, hbK.out⟩
end Go.Proofs.YtpmceapjnnkhjaaDoor
