/-
  Part JT of a proof.
-/
import Derived.Test.YtakpmdmjbgipiaaGreatDoorPA
import Derived.Test.YtakpmdmjbgipiaaGreatDoorJI
import Derived.Test.YtakpmdmjbgipiaaGreatDoorPM
set_option maxHeartbeats 16000000
set_option maxRecDepth 100000
set_option linter.unusedVariables false
set_option linter.unusedSimpArgs false
namespace Go.Proofs.YtakpmdmjbgipiaaGreatDoor
open Go.RowKit
set_option maxHeartbeats 16000000
set_option maxRecDepth 100000
def DifRet (w : World) (L : Nat) (Λ : List Nat → Bool) (r : Value) (w' : World) : Prop :=
 Below w.heap.size w w' ∧ (((∀ z, okW L z → Λ z = false) ∧ r = .tuple #[.slice none 0 0, .bool false]) ∨
  ∃ z A c, FirstW L Λ z ∧ r = .tuple #[.slice A z.length c, .bool true] ∧ Sl w' w'.heap.size 1 encI A (natL z))
theorem difference_any {w : World} {v1 v2 : Value} {L : Nat} {t u : List (List Nat)} {ac bc : List Bool} (h1 : IsDF w w.heap.size v1 t ac) (h2 : IsDF w w.heap.size v2 u bc) (hok : DOK L t ac) (hok' : DOK L u bc) (hL1 : 1 ≤ L) (hL : L ≤ 8) (hac : ac.length ≤ 400) (hbc : bc.length ≤ 400) (hT : PowT w) :
  Calls Tryz.prog 37 #[v1, v2, .int .i64 (L : Int)] w (Ret fun r w' => DifRet w L (fun z => langT t ac z && !langT u bc z) r w') := by
 have hmul : ac.length * bc.length ≤ 400 * 400 := Nat.mul_le_mul hac hbc
 have h1H := hide h1
 have h2H := hide h2
 obtain ⟨A1, c1, A2, c2, rfl, -⟩ := h1
 obtain ⟨D1, d1, D2, d2, rfl, -⟩ := h2
 obtain ⟨w1, hw1, hb1, hB1, hk1⟩ := box_blk w #[.slice A1 t.length c1, .slice A2 ac.length c2] 52
 obtain ⟨w2, hw2, hb2, hB2, hk2⟩ := box_blk w1 #[.slice D1 u.length d1, .slice D2 bc.length d2] 52
 have s1 := hb1.size
 have b02 := hide (hb1.trans (hb2.mono s1))
 have f1 := (hB1.below hb2).cell
 have f2 := hB2.cell
 have hcall := product_any (F := 63) (op := fun x y => x && !y) (.inr (.inr ⟨rfl, rfl⟩)) (w := w2) (h1H.out.keep (w' := w2) (fun p hp => b02.out.cell hp) b02.out.size) (h2H.out.keep (w' := w2) (fun p hp => b02.out.cell hp) b02.out.size) hok hok' hL (by omega) (hT.below b02.out)
 have hmulH := hide hmul
 generalize t.length = lt at *
 generalize u.length = lu at *
 obtain ⟨la, hla⟩ : ∃ la, la = ac.length := ⟨_, rfl⟩
 obtain ⟨lb, hlb⟩ : ∃ lb, lb = bc.length := ⟨_, rfl⟩
 simp only [← hla, ← hlb] at hcall hw1 hw2 f1 f2 hmulH ⊢
 clear hb1 hB1 hk1 hb2 hB2 hk2 hT hmul hac hbc h1H h2H hla hlb hok hok'
 go_enter Tryz.func37, Tryz.ntmps37
 go_wp2_with fail
 refine Calls.ret hcall ?_
 rintro r w3 ⟨hb3, t3, ac3, hC3, hl3, hI3⟩
 have b03 := hide (b02.out.trans (hb3.mono b02.out.size))
 have hC3H := hide hC3
 have hl9 : ac3.length ≤ 160000 := by have := hmulH.out; omega
 have hl9H := hide hl9
 have hcall2 := automaton_any (hI3 w3 (Kept.refl _ _)) hC3.ok hL (by omega)
 clear hcall hb3 hC3 hl3 hI3 f1 f2 hl9
 go_wp2_with fail
 refine Calls.ret hcall2 ?_
 rintro r w4 ⟨hb4, hI4⟩
 have b04 := hide (b03.out.trans (hb4.mono b03.out.size))
 have hin := plainW_in hC3H.out.ok
 have hedg : (plainW L t3 ac3).edges.length ≤ 3000000 := by
  rw [plainW_edges]
  have : ac3.length * L ≤ 160000 * 8 := Nat.mul_le_mul hl9H.out hL
  omega
 have hcall3 := network_any (hI4 w4 (Kept.refl _ _)) hin ⟨by show (0 : Int) ≤ (ac3.length : Int); omega, by show (ac3.length : Int) ≤ 200000; have := hl9H.out; omega⟩ ⟨by show (0 : Int) ≤ (L : Int); omega, by show (L : Int) ≤ 8; omega⟩ hedg
 have hinH := hide hin
 have hedgH := hide hedg
 clear hcall2 hb4 hI4 hin hedg
 go_wp2_with fail
 refine Calls.ret hcall3 ?_
 rintro r w5 ⟨hNF, hb5⟩
 have b05 := hide (b04.out.trans (hb5.mono b04.out.size))
 have hcall4 := shortest_any hNF (WA.nf_ok hinH.out) (by rw [(plainW L t3 ac3).nf_n]; show ((ac3.length : Int)).toNat ≤ 200000; have := hl9H.out; omega) (show (plainW L t3 ac3).L ≤ 8 by rw [plainW_L]; exact hL) (Nat.le_trans (plainW L t3 ac3).ps_len hedgH.out) (by show (1 : Nat) ≤ 4000000; omega) (WA.cat_le hedgH.out)
 clear hcall3 hb5 hNF
 go_wp2_with fail
 refine Calls.ret hcall4 ?_
 rintro r w6 ⟨hb6, far, hF, hr⟩
 have b06 := hide (b05.out.trans (hb6.mono b05.out.size))
 have hS := hide (NF.shortR_ok hF (WA.nf_ok hinH.out))
 have hlang := hide (fun (z : List Nat) (hz : okW L z) => (plainW_lang hC3H.out.ok hz).trans (hC3H.out.can.lang z hz))
 clear hcall4 hb6 hF
 rcases hr with ⟨hn, rfl⟩ | ⟨z, A, c, hs, rfl, hSl⟩
 ·have hnH := hide hn
  clear hn
  go_wp2_with fail
  refine bodyPost_ret (v := .tuple #[.slice none 0 0, .bool false]) (by simp [results, Tryz.results37, go_sem]) rfl ⟨b06.out, .inl ⟨fun z hz => ?_, rfl⟩⟩
  have h1 := hS.out
  rw [hnH.out] at h1
  show (langT t ac z && !langT u bc z) = false
  rw [← hlang.out z hz]
  exact h1.non rfl z (by rw [show (plainW L t3 ac3).nf.L = L from plainW_L (t := t3) (ac := ac3)]; exact hz)
 ·have hsH := hide hs
  have hSlH := hide hSl
  clear hs hSl
  go_wp2_with fail
  have h1 := hS.out
  rw [hsH.out] at h1
  obtain ⟨h2, h3, h4⟩ := h1.som z rfl
  rw [show (plainW L t3 ac3).nf.L = L from plainW_L (t := t3) (ac := ac3)] at h2 h4
  refine bodyPost_ret (v := .tuple #[.slice A z.length c, .bool true]) (by simp [results, Tryz.results37, go_sem]) rfl ⟨b06.out, .inr ⟨z, A, c, ⟨h2, ?_, fun v hv hA => h4 v hv ?_⟩, rfl, hSlH.out⟩⟩
  ·show (langT t ac z && !langT u bc z) = true
   rw [← hlang.out z h2]
   exact h3
  ·show (plainW L t3 ac3).lang v = true
   rw [hlang.out v hv]
   exact hA
end Go.Proofs.YtakpmdmjbgipiaaGreatDoor
namespace Go.Proofs.YtakpmdmjbgipiaaGreatDoor
open Go.RowKit
set_option maxHeartbeats 16000000
set_option maxRecDepth 100000
def IncRet (w : World) (a b : WA) (r : Value) (w' : World) : Prop :=
 Below w.heap.size w w' ∧ ∃ (x : Bool) (A : Option Addr) (c : Nat) (z : List Nat) (e : Int), r = .tuple #[.bool x, .slice A z.length c, .int .i64 e] ∧ Sl w' w'.heap.size 1 encI A (natL z) ∧ pErr a b e ∧
  (e ≠ 0 → x = false ∧ z = []) ∧ (e = 0 → (x = true ∧ z = [] ∧ ∀ z, okW a.L z → a.lang z = true → b.lang z = true) ∨ (x = false ∧ FirstW a.L (fun v => a.lang v && !b.lang v) z))
theorem Included_any {vA vB : Value} {a b : WA} {w : World} (hA : IsWA w w.heap.size vA a) (hB : IsWA w w.heap.size vB b) (hea : a.edges.length ≤ 3000000) (hsa : a.start.length ≤ 4000000) (heb : b.edges.length ≤ 3000000) (hsb : b.start.length ≤ 4000000) (hT : PowT w) :
  Calls Tryz.prog 16 #[vA, vB] w (Ret fun r w' => IncRet w a b r w') := by
 have hAH := hide hA
 have hBH := hide hB
 have hTH := hide hT
 obtain ⟨A1, c1, A2, c2, A3, c3, rfl, -⟩ := hA
 obtain ⟨B1, d1, B2, d2, B3, d3, rfl, -⟩ := hB
 obtain ⟨w1, hw1, hb1, hB1, hk1⟩ := box_blk w #[.int .i64 a.letters, .int .i64 a.states, .slice A1 a.start.length c1, .slice A2 a.accept.length c2, .slice A3 a.edges.length c3] 28
 obtain ⟨w2, hw2, hb2, hB2, hk2⟩ := box_blk w1 #[.int .i64 b.letters, .int .i64 b.states, .slice B1 b.start.length d1, .slice B2 b.accept.length d2, .slice B3 b.edges.length d3] 28
 have s1 := hb1.size
 have b02 := hide (hb1.trans (hb2.mono s1))
 have hBa2 := hide (hB1.below hb2)
 have f1 := hBa2.out.cell
 have f2 := hB2.cell
 have hpair := pair_any (hAH.out.keep (w' := w2) (fun p hp => b02.out.cell hp) b02.out.size) (hBH.out.keep (w' := w2) (fun p hp => b02.out.cell hp) b02.out.size) hea hsa heb hsb (hT.below b02.out)
 clear hk1 hk2 hB1 hB2 hb1 hb2 hT
 go_enter Tryz.func16, Tryz.ntmps16
 go_wp2_with fail
 refine Calls.ret hpair ?_
 intro r w4 hret
 obtain ⟨hb4, x0, x1, y0, y1, e, ⟨P1, n1, p1, rfl⟩, ⟨P2, n2, p2, rfl⟩, ⟨P3, n3, p3, rfl⟩, ⟨P4, n4, p4, rfl⟩, rfl, he, hok⟩ := hret.split
 have b04 := hide (b02.out.trans (hb4.mono b02.out.size))
 have heH := hide he
 have hokH := hide hok
 obtain ⟨w5, w6, wA, wB, hw5, hw6, hwA, hwB, hx6, hyA, hxB, hyB, hbB, l5⟩ := two_box w4 (.slice P1 n1 p1) (.slice P2 n2 p2) (.slice P3 n3 p3) (.slice P4 n4 p4)
 have b0B := hide (b04.out.trans (hbB.mono b04.out.size))
 have hbBH := hide hbB
 have g1 := ((hBa2.out.below (hb4.mono (Nat.le_refl _))).below (hbB.mono (Nat.le_refl _))).cell
 have i1 := hx6.frozen
 have i2 := hx6.lt
 have i3 := hx6.cell
 have i4 := hyA.frozen
 have i5 := hyA.lt
 have i6 := hyA.cell
 have i7 := hxB.cell
 have i8 := hyB.cell
 unfold set2 at hwA hwB
 clear hpair hret hb4 f1 f2 hx6 hyA hxB hyB hbB he hok
 by_cases hz : e = 0
 ·subst hz
  obtain ⟨t, ac, u, bc, hC, hD, hac, hbc, hI1, hI2⟩ := hokH.out rfl
  have hbo : Hid (a.both b = true) := by
   show _ = _
   rcases heH.out with ⟨-, h⟩ | ⟨-, -, h⟩ | ⟨hbo, -⟩
   ·omega
   ·omega
   ·exact hbo
  obtain ⟨oka, okb, hle⟩ := WA.both_iff.1 hbo.out
  have hLL : b.L = a.L := by unfold WA.L; rw [hle]
  have hbd := (WA.ok_iff.1 oka).1
  have hLl : a.letters = (a.L : Int) := by unfold WA.L; omega
  rw [hLL] at hD
  have hcall := difference_any (hI1.keep (w' := wB) (fun p hp => hbBH.out.cell hp) hbBH.out.size) (hI2.keep (w' := wB) (fun p hp => hbBH.out.cell hp) hbBH.out.size) hC.ok hD.ok (by unfold WA.L; omega) (by unfold WA.L; omega) hac hbc (hTH.out.below b0B.out)
  rw [← hLl] at hcall
  have hla := hide (show ∀ z, okW a.L z → langT t ac z = a.lang z from fun z hz => hC.can.lang z hz)
  have hlb := hide (show ∀ z, okW a.L z → langT u bc z = b.lang z from fun z hz => hD.can.lang z hz)
  clear hC hD hac hbc hI1 hI2 oka okb hle hLL hbd hLl
  go_wp2_with fail
  refine Calls.ret hcall ?_
  rintro r w8 ⟨hb8, hr⟩
  have b08 := hide (b0B.out.trans (hb8.mono b0B.out.size))
  clear hcall hb8 g1
  rcases hr with ⟨hn, rfl⟩ | ⟨z, A, c, ⟨hz, hl, hf⟩, rfl, hSl⟩
  ·have hnH := hide hn
   clear hn
   go_wp2_with fail
   refine bodyPost_ret (v := .tuple #[.bool true, .slice none 0 0, .int .i64 0]) (by simp [results, Tryz.results16, go_sem]) rfl ?_
   refine ⟨b08.out, true, none, 0, [], 0, rfl, Sl.nil rfl, heH.out, fun h => (h rfl).elim, fun _ => .inl ⟨rfl, rfl, fun z hz h => ?_⟩⟩
   have h1 := hnH.out z hz
   rw [hla.out z hz, hlb.out z hz, h] at h1
   simpa using h1
  ·have hlH := hide hl
   have hSlH := hide hSl
   have hzH := hide hz
   have hfH := hide hf
   clear hl hSl hz hf
   go_wp2_with fail
   refine bodyPost_ret (v := .tuple #[.bool false, .slice A z.length c, .int .i64 0]) (by simp [results, Tryz.results16, go_sem]) rfl ?_
   refine ⟨b08.out, false, A, c, z, 0, rfl, hSlH.out, heH.out, fun h => (h rfl).elim, fun _ => .inr ⟨rfl, hzH.out, ?_, fun v hv hA => hfH.out v hv ?_⟩⟩
   ·have h1 := hlH.out
    rw [hla.out z hzH.out, hlb.out z hzH.out] at h1
    exact h1
   ·show (langT t ac v && !langT u bc v) = true
    rw [hla.out v hv, hlb.out v hv]
    exact hA
 ·have hz2 : (e == 0) = false := by simpa using hz
  go_wp2_with fail
  refine bodyPost_ret (v := .tuple #[.bool false, .slice none 0 0, .int .i64 e]) (by simp [results, Tryz.results16, go_sem]) rfl ?_
  exact ⟨b0B.out, false, none, 0, [], e, rfl, Sl.nil rfl, heH.out, fun _ => ⟨rfl, rfl⟩, fun h => (hz h).elim⟩
end Go.Proofs.YtakpmdmjbgipiaaGreatDoor
