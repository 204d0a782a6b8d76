/-
  Part VG of a proof.
-/
import Derived.Test.YtpmceapjnnkhjaaDoorPA
import Derived.Test.YtpmceapjnnkhjaaDoorVL
import Derived.Test.YtpmceapjnnkhjaaDoorVF
import Derived.Test.YtpmceapjnnkhjaaDoorPM
set_option maxHeartbeats 16000000
set_option maxRecDepth 100000
set_option linter.unusedVariables false
set_option linter.unusedSimpArgs false
namespace Go.Proofs.YtpmceapjnnkhjaaDoor
open Go.RowKit
set_option maxHeartbeats 16000000
set_option maxRecDepth 100000
def WA.wwE (a : WA) (len : Int) : Int := if a.ok && decide (0 ≤ len ∧ len ≤ 6) then 0 else 1
def WA.wwL (a : WA) (len : Int) : List (List Int) := if a.ok && decide (0 ≤ len ∧ len ≤ 6) then (a.nf.wordsB [] len.toNat).map natL else []
theorem WwRet.shape {w w' : World} {a : WA} {len : Int} {r : Value} (h : WwRet w a len r w') : Below w.heap.size w w' ∧ ∃ A c, r = .tuple #[.slice A (a.wwL len).length c, .int .i64 (a.wwE len)] ∧ VSl R1 w' w'.heap.size A (a.wwL len) := by
 obtain ⟨hb, ⟨h1, rfl⟩ | ⟨h1, h2, h3, d, rfl, A, c, rfl, hV⟩⟩ := h
 ·have hf : (a.ok && decide (0 ≤ len ∧ len ≤ 6)) = false := by
   rcases h1 with h1 | h1
   ·rw [h1]; rfl
   ·rw [decide_eq_false (by omega), Bool.and_false]
  have e1 : a.wwE len = 1 := by unfold WA.wwE; rw [hf]; rfl
  have e2 : a.wwL len = [] := by unfold WA.wwL; rw [hf]; rfl
  rw [e1, e2]
  exact ⟨hb, none, 0, rfl, by simp, fun h => absurd rfl h⟩
 ·have hf : (a.ok && decide (0 ≤ len ∧ len ≤ 6)) = true := by rw [h1, decide_eq_true ⟨h2, h3⟩]; rfl
  have e1 : a.wwE len = 0 := by unfold WA.wwE; rw [hf]; rfl
  have e2 : a.wwL len = (a.nf.wordsB [] len.toNat).map natL := by unfold WA.wwL; rw [hf]; rfl
  rw [e1, e2]
  exact ⟨hb, A, c, rfl, hV⟩
theorem lawWords {vA : Value} {a : WA} {w : World} {z : Int} (hA : IsWA w w.heap.size vA a) (hT : PowT w) :
  Calls Tryd.prog 11 #[vA, .int .i64 z] w (Ret fun v w' => v = .bool true ∧ Below w.heap.size w w') := by
 have hAH := hide hA
 obtain ⟨A1, c1, A2, c2, A3, c3, rfl, -⟩ := hA
 obtain ⟨w1, hw1, hb1, hB1, hk1⟩ := box_blk w #[.int .i64 a.letters, .int .i64 a.states, .slice A1 a.start.length c1, .slice A2 a.accept.length c2, .slice A3 a.edges.length c3] 25
 have b01 := hide hb1
 have hBa1 := hide hB1
 have hTH := hide hT
 have f1 := hBa1.out.cell
 have hbig := Big_any (hAH.out.keep (w' := w1) (fun p hp => b01.out.cell hp) b01.out.size)
 clear hk1 hb1 hB1 hT
 go_enter Tryd.func11, Tryd.ntmps11
 go_wp2_with fail
 refine Calls.ret hbig ?_
 rintro r w3 ⟨rfl, hb3⟩
 have b03 := hide (b01.out.trans (hb3.mono b01.out.size))
 have hBa3 := hide (hBa1.out.below (hb3.mono (Nat.le_refl _)))
 have f3 := hBa3.out.cell
 have hkn := hide (fun (wx : World) (hb : Below w.heap.size w wx) => known_any (hTH.out.below hb))
 clear hbig hb3 f1
 cases hbg : a.big with
 | true =>
  have hk := hkn.out w3 b03.out
  go_wp2_with fail
  refine Calls.ret hk ?_
  rintro r wk ⟨rfl, hbk⟩
  have hbK := hide (b03.out.trans (hbk.mono b03.out.size))
  clear hk hbk
  go_wp2_with fail
  go_ret
  exact ⟨rfl, hbK.out⟩
 | false =>
  obtain ⟨g1, g2, g3⟩ := WA.big_not hbg
  clear hbg
  obtain ⟨lt, hlt⟩ : ∃ lt, lt = a.letters := ⟨_, rfl⟩
  have hltH := hide hlt
  rw [← hlt] at f3 hBa3 ⊢
  clear hlt
  by_cases d1 : 4 < lt ∧ lt ≤ 8
  ·have hk := hkn.out w3 b03.out
   obtain ⟨d1, d2⟩ := d1
   go_wp2_with fail
   refine Calls.ret hk ?_
   rintro r wk ⟨rfl, hbk⟩
   have hbK := hide (b03.out.trans (hbk.mono b03.out.size))
   clear hk hbk
   go_wp2_with fail
   go_ret
   exact ⟨rfl, hbK.out⟩
  ·have hL4 := hide (show a.ok = true → a.L ≤ 4 from fun hok => by
    have h1 := (WA.ok_iff.1 hok).1
    have h2 := hltH.out
    unfold WA.L
    omega)
   have e1 : a.edges.length ≤ 3000000 := by omega
   have e3 : a.start.length ≤ 4000000 := by omega
   have hc1 := Words_any (len := z) (hAH.out.keep (w' := w3) (fun p hp => b03.out.cell hp) b03.out.size) e1 e3 hL4.out
   rw [← hltH.out] at hc1
   have hrest : ∀ (Qf : Prop), Qf → Qf := fun _ h => h
   clear g1 g2 g3 e1 e3 hrest
   have hcs : lt ≤ 4 ∨ (4 < lt ∧ 8 < lt) := by omega
   clear d1
   rcases hcs with d1 | ⟨d1, d2⟩
   all_goals
    go_wp2_with fail
    refine Calls.ret hc1 ?_
    rintro r w5 hret
    obtain ⟨hb5, E1, m1, rfl, hV1⟩ := hret.shape
    have b05 := hide (b03.out.trans (hb5.mono b03.out.size))
    have hBa5 := hide (hBa3.out.below (hb5.mono (Nat.le_refl _)))
    have f5 := hBa5.out.cell
    have hc2 := refWords_any (len := z) (hAH.out.keep (w' := w5) (fun p hp => b05.out.cell hp) b05.out.size) hL4.out
    rw [← hltH.out] at hc2
    have hV1H := hide hV1
    clear hc1 hret hb5 hV1 f3
    go_wp2_with fail
    refine Calls.ret hc2 ?_
    rintro r w7 hret
    obtain ⟨hb7, E2, m2, rfl, hV2⟩ := hret.shape
    have b07 := hide (b05.out.trans (hb7.mono b05.out.size))
    have hV17 := hide (hV1H.out.keep (@R1.keep) (w' := w7) (fun p hp => hb7.cell hp) hb7.size)
    have hV2H := hide hV2
    obtain ⟨n, hn⟩ : ∃ n, n = (a.wwL z).length := ⟨_, rfl⟩
    have hnH := hide hn
    have hnm : n ≤ 9223372036854775807 := by rw [hn]; exact hV2.1
    rw [← hn]
    generalize a.wwE z = ee
    have heq : (ee == ee) = true := by simp
    clear hc2 hret hb7 hV2 f5 hn hV1H
    go_wp2_with fail
    go_loopw [9] (fun ii wr => ∃ (i : Nat), ii = .int .i64 (i : Int) ∧ i ≤ n ∧ Hid (Below w7.heap.size w7 wr)) (fun ii _ => n - (intOf ii).toNat)
    case atStart => exact ⟨0, rfl, Nat.zero_le _, Below.refl _ _⟩
    case round =>
     obtain ⟨i, rfl, hi, hB⟩ := hrel
     by_cases hlt : i < n
     ·obtain ⟨x, hx⟩ := get_lt (l := a.wwL z) (i := i) (by rw [← hnH.out]; exact hlt)
      have hBd : Below w7.heap.size w7 wr.drew := hB.out.trans ((drewB wr).mono hB.out.size)
      obtain ⟨b1, o1, v1, rfl, k1, q1, F1, s1, rfl, t1⟩ := (hV17.out.keep (@R1.keep) (w' := wr) (B' := w7.heap.size) (fun p hp => hB.out.cell hp) (Nat.le_refl _)).at hx
      obtain ⟨b2, o2, v2, rfl, k2, q2, F2, s2, rfl, t2⟩ := (hV2H.out.keep (@R1.keep) (w' := wr) (B' := w7.heap.size) (fun p hp => hB.out.cell hp) (Nat.le_refl _)).at hx
      have hcall := sameInts_any (w := wr.drew) (c1 := s1) (c2 := s2) t1 t2 hBd.size hBd.size
      rw [decide_eq_true rfl] at hcall
      have hBH := hide hBd
      clear hx t1 t2 hBd
      go_wp2_with fail
      refine Reg.cP [0, 0, 3, 7, 0, 0, 48, 112, 255, 511] ?_
      go_wp2_with fail
      refine Calls.ret hcall ?_
      rintro r w8 ⟨rfl, hb8⟩
      have hb8H := hide (hBH.out.trans (hb8.mono hBH.out.size))
      clear hcall hb8
      go_wp2_with fail
      exact ⟨⟨i + 1, by go_num, by omega, hb8H⟩, by simp [intOf]; omega⟩
     ·have b0r := hide (b07.out.trans (hB.out.mono b07.out.size))
      have hk := hkn.out wr b0r.out
      obtain rfl : i = n := by omega
      go_wp2_with fail
      refine Calls.ret hk ?_
      rintro r wk ⟨rfl, hbk⟩
      have hbK := hide (b0r.out.trans (hbk.mono b0r.out.size))
      clear hk hbk
      go_wp2_with fail
      go_ret
      exact ⟨rfl, hbK.out⟩
end Go.Proofs.YtpmceapjnnkhjaaDoor
