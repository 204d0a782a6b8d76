/-
  Part XJ of a proof.
-/
import Derived.Test.YtpmceapjnnkhjaaGreatDoorPA
import Derived.Test.YtpmceapjnnkhjaaGreatDoorXF
import Derived.Test.YtpmceapjnnkhjaaGreatDoorXI
import Derived.Test.YtpmceapjnnkhjaaGreatDoorPJ
set_option maxHeartbeats 16000000
set_option maxRecDepth 100000
set_option linter.unusedVariables false
set_option linter.unusedSimpArgs false
namespace Go.Proofs.YtpmceapjnnkhjaaGreatDoor
open Go.RowKit
set_option maxHeartbeats 16000000
set_option maxRecDepth 100000
def ImRet (w : World) (t : TR) (a : WA) (v : Value) (w' : World) : Prop :=
 Below w.heap.size w w' ∧ ((t.both a = false ∧ v = .tuple #[.agg zero25, .int .i64 1]) ∨
  (t.both a = true ∧ (4000 < t.n * a.n ∨ (prW t a).nf.Large 400) ∧ v = .tuple #[.agg zero25, .int .i64 4]) ∨
  (t.both a = true ∧ ¬ 4000 < t.n * a.n ∧ ¬ (prW t a).nf.Large 400 ∧ ∃ t' ac' r, CanT a.L t' ac' (prW t a).lang ∧ ac'.length ≤ 400 ∧ v = .tuple #[r, .int .i64 0] ∧ ∀ w'', Kept w' w'' (fun k => k < w.heap.size) → IsWA w'' w''.heap.size r (plainW a.L t' ac')))
theorem one_boxI (w : World) (x0 x1 : Value) : ∃ w5 wA, w.alloc (.cells #[sn0, sn0] 52) = w5 ∧ set2 w5 w.heap.size x0 x1 = wA ∧ Blk w5 w.heap.size 52 #[sn0, sn0] ∧ Blk wA w.heap.size 52 #[x0, x1] ∧ Below w.heap.size w wA ∧ w.heap.size < wA.heap.size := by
 obtain ⟨w5, hw5, hb5, hB5, hk5⟩ := box_blk w #[sn0, sn0] 52
 obtain ⟨wA, hwA, hBA, hKA⟩ := set2_facts hB5 x0 x1
 exact ⟨w5, wA, hw5, hwA, hB5, hBA, hb5.trans (hKA.below hb5.size fun b hb e => by omega), hBA.lt⟩
theorem TR.both_iff {t : TR} {a : WA} : t.both a = true ↔ t.ok = true ∧ a.ok = true ∧ a.letters = t.letters := by
 simp [TR.both, Bool.and_eq_true, and_assoc]
theorem Im_mem (w : World) (cs ds es : Array Value) : ∃ w1 w2 w3 w4, w.alloc (.cells cs 25) = w1 ∧ w1.alloc (.cells ds 28) = w2 ∧ w2.alloc (.cells zero25 28) = w3 ∧ w3.alloc (.cells es 87) = w4 ∧ Below w.heap.size w w4 ∧ Blk w4 w.heap.size 25 cs ∧ Blk w4 w1.heap.size 28 ds ∧ Blk w4 w2.heap.size 28 zero25 ∧ Blk w4 w3.heap.size 87 es ∧ Below w.heap.size w w3 ∧ Blk w3 w.heap.size 25 cs ∧ Blk w3 w1.heap.size 28 ds ∧ w.heap.size < w1.heap.size ∧ w1.heap.size < w2.heap.size ∧ w2.heap.size < w3.heap.size ∧ w3.heap.size < w4.heap.size := by
 obtain ⟨w1, h1, hb1, hB1, -⟩ := box_blk w cs 25
 obtain ⟨w2, h2, hb2, hB2, -⟩ := box_blk w1 ds 28
 obtain ⟨w3, h3, hb3, hB3, -⟩ := box_blk w2 zero25 28
 obtain ⟨w4, h4, hb4, hB4, -⟩ := box_blk w3 es 87
 have l1 := hB1.lt
 have l2 := hB2.lt
 have l3 := hB3.lt
 have l4 := hB4.lt
 have b3 : Below w.heap.size w w3 := hb1.trans ((hb2.mono (by omega)).trans (hb3.mono (by omega)))
 exact ⟨w1, w2, w3, w4, h1, h2, h3, h4, b3.trans (hb4.mono (by omega)), ((hB1.below hb2).below hb3).below hb4, (hB2.below hb3).below hb4, hB3.below hb4, hB4, b3, (hB1.below hb2).below hb3, hB2.below hb3, l1, l2, l3, l4⟩
theorem Image_any {vt va : Value} {t : TR} {a : WA} {w : World} (ht : IsTR w w.heap.size vt t) (ha : IsWA w w.heap.size va a) (hT : PowT w)
  (k1 : t.start.length ≤ 4000) (k2 : t.accept.length ≤ 4000) (k3 : a.start.length ≤ 4000) (k4 : a.accept.length ≤ 4000) (m1 : t.start.length * a.start.length ≤ 3000000) (m2 : t.accept.length * a.accept.length ≤ 3000000) (me : t.moves.length * a.edges.length ≤ 1000000) (ke : a.edges.length ≤ 4000) (km : t.moves.length ≤ 4000) :
  Calls Tryz.prog 9 #[vt, va] w (Ret fun r w' => ImRet w t a r w') := by
 have htH := hide ht
 have haH := hide ha
 have hTH := hide hT
 obtain ⟨A1, c1, A2, c2, A3, c3, rfl, -⟩ := ht
 obtain ⟨B1, d1, B2, d2, B3, d3, rfl, -⟩ := ha
 obtain ⟨w1, w2, w3, w4, hw1, hw2, hw3, hw4, hb4, hB1, hB2, hB3, hB4, hb3, hC1, hC2, l1, l2, l3, l4⟩ := Im_mem w #[.int .i64 t.letters, .int .i64 t.states, .slice A1 t.start.length c1, .slice A2 t.accept.length c2, .slice A3 t.moves.length c3] #[.int .i64 a.letters, .int .i64 a.states, .slice B1 a.start.length d1, .slice B2 a.accept.length d2, .slice B3 a.edges.length d3]
  #[.iface 47 (.agg #[.int .i64 t.letters, .int .i64 t.states, .slice A1 t.start.length c1, .slice A2 t.accept.length c2, .slice A3 t.moves.length c3]), .iface 48 (.agg #[.int .i64 a.letters, .int .i64 a.states, .slice B1 a.start.length d1, .slice B2 a.accept.length d2, .slice B3 a.edges.length d3])]
 have b04 := hide hb4
 have hB1H := hide hB1
 have hB2H := hide hB2
 have hB3H := hide hB3
 have f1 := hC1.cell
 have f2 := hC2.cell
 have hex := examineR_any (c := 2) (htH.out.keep (w' := w4) (fun p hp => b04.out.cell hp) b04.out.size) (haH.out.keep (w' := w4) (fun p hp => b04.out.cell hp) b04.out.size) hB4
 clear hb4 hB1 hB2 hB3 hB4 hb3 hC1 hC2
 cases hbo : t.both a with
 | false =>
  rw [hbo, show errno false = 1 from rfl] at hex
  have hboH := hide hbo
  clear hbo k1 k2 k3 k4 m1 m2 me ke km hT
  go_enter Tryz.func9, Tryz.ntmps9
  go_wp2_with fail
  refine Calls.ret hex ?_
  rintro r w5 ⟨rfl, hb5⟩
  have hR5 := hB3H.out.below hb5
  have hf5 := hR5.frozen
  have hl5 := hR5.lt
  have hc5 := hR5.cell
  obtain ⟨wF, hwF, hBF, hKF⟩ := set5_facts hR5 (.int .i64 0) (.int .i64 0) sn0 sn0 sn0
  have hBFc := hBF.cell
  have hb05 := b04.out.trans (hb5.mono b04.out.size)
  have hbF := hide (hb05.trans (hKF.below hb05.size fun b hb e => by omega))
  unfold set5 at hwF
  clear hex hb5 hR5 hBF hKF hb05 f1 f2
  go_wp2_with fail
  refine bodyPost_ret (v := .tuple #[.agg zero25, .int .i64 1]) (by simp [results, Tryz.results9, go_sem, hBFc]) rfl ⟨hbF.out, .inl ⟨hboH.out, rfl⟩⟩
 | true =>
  rw [hbo, show errno true = 0 from rfl] at hex
  obtain ⟨tok, aok, hLe⟩ := TR.both_iff.1 hbo
  have tin := (TR.ok_iff.1 tok).2
  have tbd := (TR.ok_iff.1 tok).1
  have ain := (WA.ok_iff.1 aok).2
  have abd := (WA.ok_iff.1 aok).1
  have hTe : t.states = (t.n : Int) := by unfold TR.n; omega
  have hSe : a.states = (a.n : Int) := by unfold WA.n; omega
  have htn : t.n ≤ 400 := by unfold TR.n; omega
  have han : a.n ≤ 400 := by unfold WA.n; omega
  have hLL : a.letters = (a.L : Int) := by unfold WA.L; omega
  have hL8 : a.L ≤ 8 := by unfold WA.L; omega
  have hmb : t.n * a.n ≤ 400 * 400 := Nat.mul_le_mul htn han
  have himg := hide (fun (wx : World) (hb : Below w.heap.size w wx) => image_any (htH.out.keep (w' := wx) (fun p hp => hb.cell hp) hb.size) (haH.out.keep (w' := wx) (fun p hp => hb.cell hp) hb.size) tin ain hLe.symm ⟨by omega, by omega⟩ ⟨by omega, by omega⟩ ⟨by omega, by omega⟩ k1 k2 k3 k4 m1 m2 me ke km)
  have hpin := prW_in tin ain hLe.symm
  have hpn := prW_n (t := t) (a := a) tbd.2.2.1 abd.2.2.1
  have hel : (prEs t a).length ≤ 1000000 := Nat.le_trans (prEs_len t a) me
  have hsl : (imgN t a).start.length ≤ 4000000 := by
   show (pairL a.states (sortU t.start) (sortU a.start)).length ≤ _
   rw [pairL_len]
   have := Nat.mul_le_mul (sortU_len t.start) (sortU_len a.start)
   omega
  have hsub := hide (fun (wx : World) (d : Value) (hb : Below w.heap.size w wx) (hI : IsNF wx wx.heap.size d (imgN t a)) => subsets_any (k := 400) hI (imgN_ok hpin) (show (prW t a).nf.n ≤ 200000 by rw [WA.nf_n, hpn]; omega) (show a.L ≤ 8 from hL8) (by omega) (hTH.out.below hb) hsl (fun mm x hm hx => by
   have h1 := WA.cat_len (a := prW t a) (m := mm) (x := x) (by rw [← WA.nf_n]; exact hm) hx
   have h2 : ((imgN t a).cat (setL mm) x).length ≤ (prEs t a).length := h1
   omega))
  have hmin : ∀ (wx : World) (d : Value) (all : List (List Bool)), Below w.heap.size w wx → Disc (imgN t a).L (imgN t a).after (imgN t a).st all → all.length ≤ 400 → IsDF wx wx.heap.size d (rowsOf (imgN t a) all all.length) (all.map (imgN t a).has) →
    Calls Tryz.prog 26 #[d] wx (Ret fun r w' => Below wx.heap.size wx w' ∧ ∃ t' ac, CanT a.L t' ac (prW t a).lang ∧ ac.length ≤ 400 ∧ ∀ w'', Kept w' w'' (fun k => k < wx.heap.size) → IsDF w'' w''.heap.size r t' ac) := fun wx d all hb hD hl hI => by
   have hd := rowsG_dok hD (ac := all.map (imgN t a).has) (by simp)
   refine Calls.ret (minimal_any (L := (imgN t a).L) hI hd hL8 (by simp; omega) (hTH.out.below hb)) ?_
   rintro r w' ⟨hb', cl, st, hW, hst', hsl, hDi, hF⟩
   refine ⟨hb', _, _, ?_, by simp at hsl ⊢; omega, hF⟩
   exact (min_canT hd hW hst' hDi).congr (Λ' := (prW t a).lang) fun w hw => by rw [← imgN_lang]; exact (subs_lang hD hw).symm
  have hminH := hide hmin
  have haut := hide (fun (wx : World) (d : Value) (t' : List (List Nat)) (ac : List Bool) (hI : IsDF wx wx.heap.size d t' ac) (hC : CanT a.L t' ac (prW t a).lang) (hl : ac.length ≤ 400) => automaton_any hI hC.ok hL8 (by omega))
  have hboH := hide hbo
  rw [hSe, hLL] at hw2 hB2H f2 hw4 himg ⊢
  rw [hTe, ← hLe, hLL] at hw1 hB1H f1 hw4 himg ⊢
  obtain ⟨tn, htne⟩ : ∃ n, n = t.n := ⟨_, rfl⟩
  obtain ⟨an, hane⟩ : ∃ n, n = a.n := ⟨_, rfl⟩
  obtain ⟨L, hLne⟩ : ∃ n, n = a.L := ⟨_, rfl⟩
  have htneH := hide htne
  have haneH := hide hane
  have hLneH := hide hLne
  rw [← htne, ← hLne] at hw1 hB1H f1
  rw [← hane, ← hLne] at hw2 hB2H f2
  rw [← htne, ← hane, ← hLne] at hw4 himg ⊢
  rw [← htne, ← hane] at hmb
  clear hbo k1 k2 k3 k4 m1 m2 me ke km hT tok aok hLe tin tbd ain abd hTe hSe htn han hLL hpin hpn hel hsl hmin htne hane hLne
  go_enter Tryz.func9, Tryz.ntmps9
  go_wp2_with fail
  refine Calls.ret hex ?_
  rintro r w5 ⟨rfl, hb5⟩
  have b05 := hide (b04.out.trans (hb5.mono b04.out.size))
  have hB15 := hide (hB1H.out.below hb5)
  have hB25 := hide (hB2H.out.below hb5)
  have hB35 := hide (hB3H.out.below hb5)
  have f15 := hB15.out.cell
  have f25 := hB25.out.cell
  clear hex hb5 f1 f2
  by_cases hgt : (4000 : Int) < (tn : Int) * (an : Int)
  ·have hgtH : Hid (4000 < t.n * a.n) := by
    show 4000 < t.n * a.n
    rw [← htneH.out, ← haneH.out]
    have h1 : ((tn * an : Nat) : Int) = (tn : Int) * (an : Int) := Int.natCast_mul tn an
    omega
   have hR5 := hB35.out
   have hf5 := hR5.frozen
   have hl5 := hR5.lt
   have hc5 := hR5.cell
   obtain ⟨wF, hwF, hBF, hKF⟩ := set5_facts hR5 (.int .i64 0) (.int .i64 0) sn0 sn0 sn0
   have hBFc := hBF.cell
   have hbF := hide (b05.out.trans (hKF.below b05.out.size fun b hb e => by omega))
   unfold set5 at hwF
   clear hR5 hBF hKF
   go_wp2_with fail
   refine bodyPost_ret (v := .tuple #[.agg zero25, .int .i64 4]) (by simp [results, Tryz.results9, go_sem, hBFc]) rfl ⟨hbF.out, .inr (.inl ⟨hboH.out, .inl hgtH.out, rfl⟩)⟩
  ·have hngt : Hid (¬ 4000 < t.n * a.n) := by
    show ¬ 4000 < t.n * a.n
    rw [← htneH.out, ← haneH.out]
    have h1 : ((tn * an : Nat) : Int) = (tn : Int) * (an : Int) := Int.natCast_mul tn an
    omega
   have hcall := himg.out w5 b05.out
   go_wp2_with fail
   refine Calls.ret hcall ?_
   rintro nf w7 ⟨hNF, hb7⟩
   have hb07 := hide (b05.out.trans (hb7.mono b05.out.size))
   have hBx7 := hide (hB15.out.below hb7)
   have hR7 := hide (hB35.out.below hb7)
   have hcall2 := hsub.out w7 nf hb07.out hNF
   clear hcall hb7 hNF f15 f25
   go_wp2_with fail
   refine Calls.ret hcall2 ?_
   rintro r w8 ⟨hb8, d8, ⟨t8, ac8, hD8⟩, hr8⟩
   have hb08 := hb07.out.trans (hb8.mono hb07.out.size)
   have hBx8 := hBx7.out.below hb8
   have hR8 := hR7.out.below hb8
   have hl8 := hR8.lt
   have hs8 := hb08.size
   obtain ⟨P5, p5, P6, p6, rfl, -, -⟩ := hD8
   obtain ⟨w9, wA, hw9, hwA, hB9, hBA, hb8A, hs8A⟩ := one_boxI w8 (.slice P5 t8.length p5) (.slice P6 ac8.length p6)
   have hf9 := hB9.frozen
   have hl9 := hB9.lt
   have hc9 := hB9.cell
   have hb0A := hb08.trans (hb8A.mono hs8)
   have hRA := hR8.below hb8A
   have hBxA := hide (hBx8.below hb8A)
   have hfA := hRA.frozen
   have hlA := hRA.lt
   have hcA := hRA.cell
   have hcA9 := hBA.cell
   obtain ⟨lr8, hlr8⟩ : ∃ n, n = t8.length := ⟨_, rfl⟩
   obtain ⟨la8, hla8⟩ : ∃ n, n = ac8.length := ⟨_, rfl⟩
   rw [← hlr8, ← hla8] at hwA hr8 hcA9
   unfold set2 at hwA
   rcases hr8 with ⟨hLg, rfl⟩ | ⟨all, hDi, hal, hDF, rfl⟩
   ·obtain ⟨wF, hwF, hBF, hKF⟩ := set5_facts hRA (.int .i64 0) (.int .i64 0) sn0 sn0 sn0
    have hBFc := hBF.cell
    have hbF := hide (hb0A.trans (hKF.below hb0A.size fun b hb e => by omega))
    have hLgH := hide (imgN_large.1 hLg)
    unfold set5 at hwF
    clear hLg hlr8 hla8 hb8 hBx8 hR8 hB9 hBA hb8A hb0A hRA hBF hKF hb08 hcall2
    go_wp2_with fail
    refine bodyPost_ret (v := .tuple #[.agg zero25, .int .i64 4]) (by simp [results, Tryz.results9, go_sem, hBFc]) rfl ⟨hbF.out, .inr (.inl ⟨hboH.out, .inr hLgH.out, rfl⟩)⟩
   ·have hmnl := hide (fun h => NF.not_large hDi hal (imgN_large.2 h))
    have hDFA : IsDF wA wA.heap.size (.agg #[.slice P5 lr8 p5, .slice P6 la8 p6]) (rowsOf (imgN t a) all all.length) (all.map (imgN t a).has) := hDF.keep (fun p hp => hb8A.cell hp) hb8A.size
    have hDFd : IsDF wA.drew wA.drew.heap.size (.agg #[.slice P5 lr8 p5, .slice P6 la8 p6]) (rowsOf (imgN t a) all all.length) (all.map (imgN t a).has) := hDFA.keep (fun p hp => (drewB wA).cell hp) (Nat.le_refl _)
    have hb0d := hb0A.trans ((drewB wA).mono hb0A.size)
    have hcall := hminH.out _ _ _ hb0d hDi hal hDFd
    have hb0AH := hide hb0d
    have hRAH := hide (hRA.below (drewB wA))
    have hcxA := hBxA.out.cell
    clear hlr8 hla8 hb8 hBx8 hR8 hB9 hBA hb8A hb0A hRA hb08 hDF hDFA hDFd hDi hal hb0d hfA hcA hcall2
    go_wp2_with fail
    refine Reg.cC [0, 1, 0, 4, 15, 31, 63] [0, 2, 3, 1, 4, 5, 6] ?_
    refine Reg.rest_walk' [0, 2, 3] [1, 4, 5, 6] rfl (by kernel_rfl) ?_
    intro Qf hQf
    go_wp2_with fail
    first | refine hQf _ _ ?_ | skip
    try clear hQf
    refine Reg.rest_act' 1 [4, 5, 6] [3] rfl (by kernel_rfl) ?_
    intro Qf hQf
    simp only [gT, gS, gZ]
    go_wp2_with fail
    refine Calls.ret hcall ?_
    rintro dB wB ⟨hbB, t', ac', hCan, hacl', hDFB⟩
    have hcallA := haut.out wB _ t' ac' (hDFB wB (Kept.refl _ _)) hCan hacl'
    rw [← hLneH.out] at hcallA
    have hb0B := hide (hb0AH.out.trans (hbB.mono hb0AH.out.size))
    have hRB := hide (hRAH.out.below hbB)
    have hCanH := hide hCan
    have haclH' := hide hacl'
    go_wp2_with fail
    first | refine hQf _ _ ⟨Reg.same_below hbB [3] rfl, ?_⟩ | refine ⟨Reg.same_below hbB [3] rfl, ?_⟩
    try clear hQf
    clear hcall hbB hDFB hCan hacl'
    refine Reg.rest_act' 4 [5, 6] [] rfl (by kernel_rfl) ?_
    intro Qf hQf
    simp only [gT, gS, gZ]
    go_wp2_with fail
    refine Calls.ret hcallA ?_
    rintro dC wC ⟨hbC, hIC⟩
    obtain ⟨mm, hmm⟩ : ∃ mm, mm = plainW L t' ac' := ⟨_, rfl⟩
    rw [← hmm] at hIC
    have hmmH := hide hmm
    obtain ⟨E1, k1, E2, k2, E3, k3, rfl, -⟩ := hIC wC (Kept.refl _ _)
    have hb0C := hide (hb0B.out.trans (hbC.mono hb0B.out.size))
    have hRC := hRB.out.below hbC
    have hsC := hbC.size
    have hsB := hb0B.out.size
    obtain ⟨wF, hwF, hBF, hKF⟩ := set5_facts hRC (.int .i64 mm.letters) (.int .i64 mm.states) (.slice E1 mm.start.length k1) (.slice E2 mm.accept.length k2) (.slice E3 mm.edges.length k3)
    have j1 := hRC.frozen
    have j2 := hRC.lt
    have j3 := hRC.cell
    have j4 := hBF.cell
    have hbF := hide (hb0C.out.trans (hKF.below (by have := hb0C.out.size; omega) fun b hb e => by omega))
    have hlB := hRB.out.lt
    have hfin := hide (fun w'' (hk : Kept wF w'' (fun k => k < w.heap.size)) => hIC w'' ((hKF.mono fun b _ e => by omega).trans hk fun b _ e => by omega))
    unfold set5 at hwF
    clear hcallA hmm hIC hbC hRC hBF hKF
    go_wp2_with fail
    first | refine hQf _ _ ⟨Reg.nm, ?_⟩ | refine ⟨Reg.nm, ?_⟩
    try clear hQf
    refine Reg.rest_act' 5 [6] [] rfl (by kernel_rfl) ?_
    intro Qf hQf
    simp only [gT, gS, gZ]
    go_wp2_with fail
    first | refine hQf _ _ ⟨Reg.nm, ?_⟩ | refine ⟨Reg.nm, ?_⟩
    try clear hQf
    refine Reg.rest_walk' [6] [] rfl (by kernel_rfl) ?_
    intro Qf hQf
    go_wp2_with fail
    first | refine hQf _ _ ?_ | skip
    try clear hQf
    refine Reg.rest_end ?_
    go_wp2_with fail
    refine bodyPost_ret (v := .tuple #[.agg #[.int .i64 mm.letters, .int .i64 mm.states, .slice E1 mm.start.length k1, .slice E2 mm.accept.length k2, .slice E3 mm.edges.length k3], .int .i64 0]) (by simp [results, Tryz.results9, go_sem, j4]) rfl ⟨hbF.out, .inr (.inr ⟨hboH.out, hngt.out, hmnl.out, t', ac', _, hCanH.out, haclH'.out, rfl, by rw [← hLneH.out, ← hmmH.out]; exact hfin.out⟩)⟩
end Go.Proofs.YtpmceapjnnkhjaaGreatDoor
