/-
  Part MC of a proof.
-/
import Derived.Test.YtpmceapjnnkhjaaDoorPA
import Derived.Test.YtpmceapjnnkhjaaDoorMB
import Derived.Test.YtpmceapjnnkhjaaDoorPJ
import Derived.Test.YtpmceapjnnkhjaaDoorLK
set_option maxHeartbeats 16000000
set_option maxRecDepth 100000
set_option linter.unusedVariables false
set_option linter.unusedSimpArgs false
namespace Go.Proofs.YtpmceapjnnkhjaaDoor
open Go.RowKit
set_option maxHeartbeats 16000000
set_option maxRecDepth 100000
def MgOf (L : Nat) (t : List (List Nat)) (ac : List Bool) (d : Nat) (m : NF) : Prop := ∃ f : Nat → Nat, (∀ i j, i < ac.length → j < ac.length → (f i = f j ↔ EqW L (dnx t) (dac ac) d i j)) ∧ Mg L ac.length (dnx t) (dac ac) f m
def MgRet (w : World) (a : WA) (d : Int) (v : Value) (w' : World) : Prop :=
  Below w.heap.size w w' ∧ (((a.ok = false ∨ d < 0 ∨ 8 < d) ∧ v = .tuple #[.agg zero25, .int .i64 1]) ∨
    (a.ok = true ∧ (0 ≤ d ∧ d ≤ 8) ∧ a.nf.Large 400 ∧ v = .tuple #[.agg zero25, .int .i64 4]) ∨
    (a.ok = true ∧ (0 ≤ d ∧ d ≤ 8) ∧ ¬ a.nf.Large 400 ∧ ∃ t ac m, CanT a.L t ac a.lang ∧ ac.length ≤ 400 ∧ MgOf a.L t ac d.toNat m ∧
      ((m.Large 400 ∧ v = .tuple #[.agg zero25, .int .i64 4]) ∨
       (¬ m.Large 400 ∧ ∃ t' ac' r, CanT a.L t' ac' m.lang ∧ ac'.length ≤ 400 ∧ v = .tuple #[r, .int .i64 0] ∧ ∀ w'', Kept w' w'' (fun k => k < w.heap.size) → IsWA w'' w''.heap.size r (plainW a.L t' ac')))))
theorem flat_le {A B : Type} {f : A → List B} {k : Nat} : ∀ {l : List A}, (∀ a ∈ l, (f a).length ≤ k) → (l.flatMap f).length ≤ l.length * k
 | [], _ => by simp
 | a :: l, h => by
  have h1 := h a List.mem_cons_self
  have h2 := flat_le (f := f) (k := k) (l := l) fun b hb => h b (List.mem_cons_of_mem _ hb)
  rw [List.flatMap_cons, List.length_append, List.length_cons, Nat.succ_mul]
  omega
theorem NF.cat_le {a : NF} {k : Nat} (h : ∀ s x, s < a.n → x < a.L → (a.to s x).length ≤ k) {m : List Bool} (hm : m.length = a.n) {x : Nat} (hx : x < a.L) : (a.cat (setL m) x).length ≤ a.n * k := by
 unfold NF.cat
 refine Nat.le_trans (flat_le (k := k) fun s hs => ?_) (Nat.mul_le_mul_right _ ?_)
 ·obtain ⟨q, rfl, hq⟩ := mem_setL.1 hs
  rw [Int.toNat_natCast]
  exact h q x (by rw [← hm]; exact lt_of_get hq) hx
 ·rw [← hm]; exact setL_len m
theorem one_box (w : World) (x0 x1 : Value) : ∃ w5 wA, w.alloc (.cells #[sn0, sn0] 72) = w5 ∧ set2 w5 w.heap.size x0 x1 = wA ∧ Blk w5 w.heap.size 72 #[sn0, sn0] ∧ Blk wA w.heap.size 72 #[x0, x1] ∧ Below w.heap.size w wA ∧ w.heap.size < wA.heap.size := by
 obtain ⟨w5, hw5, hb5, hB5, hk5⟩ := box_blk w #[sn0, sn0] 72
 obtain ⟨wA, hwA, hBA, hKA⟩ := set2_facts hB5 x0 x1
 exact ⟨w5, wA, hw5, hwA, hB5, hBA, hb5.trans (hKA.below hb5.size fun b hb e => by omega), hBA.lt⟩
theorem Merge_any {v : Value} {a : WA} {w : World} {d : Int} (h : IsWA w w.heap.size v a) (he : a.edges.length ≤ 3000000) (hst : a.start.length ≤ 4000000) (hT : PowT w) :
  Calls Tryd.prog 41 #[v, .int .i64 d] w (Ret fun r w' => MgRet w a d r w') := by
 have hWA := hide h
 obtain ⟨A1, c1, A2, c2, A3, c3, rfl, h1, h2, h3, h4⟩ := h
 obtain ⟨w1, hw1, hb1, hB1, hk1⟩ := box_blk w #[.int .i64 a.letters, .int .i64 a.states, .slice A1 a.start.length c1, .slice A2 a.accept.length c2, .slice A3 a.edges.length c3] 25
 obtain ⟨w2, hw2, hb2, hB2, hk2⟩ := box_blk w1 zero25 25
 have hs1 := hb1.size
 have hb02 : Below w.heap.size w w2 := hb1.trans (hb2.mono hs1)
 have hs2 := hb02.size
 have hBx := hide (hB1.below hb2)
 have hc2 := (hB1.below hb2).cell
 have hl1 := hB1.lt
 have hR := hide hB2
 have hTH := hide hT
 have hval := validate_any (hWA.out.keep (fun p hp => hb02.cell hp) hs2)
 cases hok : a.ok
 ·rw [hok, show errno false = 1 from rfl] at hval
  have hokH := hide hok
  clear h1 h2 h3 h4 hk1 hk2 hb1 hb2 hB1 hB2 he hst hT hok
  go_enter Tryd.func41, Tryd.ntmps41
  go_wp2_with fail
  refine Calls.ret hval ?_
  rintro r w3 ⟨rfl, hb3⟩
  have hR3 := hR.out.below hb3
  have hf3 := hR3.frozen
  have hl3 := hR3.lt
  have hc3 := hR3.cell
  obtain ⟨wF, hwF, hBF, hKF⟩ := set5_facts hR3 (.int .i64 0) (.int .i64 0) sn0 sn0 sn0
  have hBFc := hBF.cell
  have hb03 := hb02.trans (hb3.mono hs2)
  have hbF := hide (hb03.trans (hKF.below hb03.size fun b hb e => by omega))
  unfold set5 at hwF
  clear hval hb3 hR3 hBF hKF hb03
  go_wp2_with fail
  refine bodyPost_ret (v := .tuple #[.agg zero25, .int .i64 1]) (by simp [results, Tryd.results41, go_sem, hBFc]) rfl ⟨hbF.out, .inl ⟨.inl hokH.out, rfl⟩⟩
 ·rw [hok, show errno true = 0 from rfl] at hval
  have hin := (WA.ok_iff.1 hok).2
  have hbd := (WA.ok_iff.1 hok).1
  have hLl : a.letters = (a.L : Int) := by unfold WA.L; omega
  have hL8 : a.L ≤ 8 := by unfold WA.L; omega
  have hL1 : 1 ≤ a.L := by unfold WA.L; omega
  have hcan := hide (fun (wx : World) (hb : Below w.heap.size w wx) => canonical_any (hWA.out.keep (w' := wx) (fun p hp => hb.cell hp) hb.size) hin ⟨by omega, by omega⟩ ⟨by omega, by omega⟩ he hst (hT.below hb))
  have hokH := hide hok
  by_cases hdd : d < 0 ∨ 8 < d
  ·have hddH := hide hdd
   have hor : d < 0 ∨ ¬ d < 0 ∧ 8 < d := by omega
   clear h1 h2 h3 h4 hk1 hk2 hb1 hb2 hB1 hB2 he hst hT hok hin hbd hLl hdd
   rcases hor with q1 | ⟨q1, q2⟩
   all_goals
    go_enter Tryd.func41, Tryd.ntmps41
    go_wp2_with fail
    refine Calls.ret hval ?_
    rintro r w3 ⟨rfl, hb3⟩
    have hR3 := hR.out.below hb3
    have hf3 := hR3.frozen
    have hl3 := hR3.lt
    have hc3 := hR3.cell
    obtain ⟨wF, hwF, hBF, hKF⟩ := set5_facts hR3 (.int .i64 0) (.int .i64 0) sn0 sn0 sn0
    have hBFc := hBF.cell
    have hb03 := hb02.trans (hb3.mono hs2)
    have hbF := hide (hb03.trans (hKF.below hb03.size fun b hb e => by omega))
    unfold set5 at hwF
    clear hval hb3 hR3 hBF hKF hb03
    go_wp2_with fail
    refine bodyPost_ret (v := .tuple #[.agg zero25, .int .i64 1]) (by simp [results, Tryd.results41, go_sem, hBFc]) rfl ⟨hbF.out, .inl ⟨.inr hddH.out, rfl⟩⟩
  obtain ⟨dp, rfl⟩ : ∃ dp : Nat, d = (dp : Int) := ⟨d.toNat, by omega⟩
  have hdp : dp ≤ 8 := by omega
  have hdpH : Hid ((0 : Int) ≤ (dp : Int) ∧ (dp : Int) ≤ 8) := ⟨by omega, by omega⟩
  have haut := hide (fun (wx : World) (d : Value) (t : List (List Nat)) (ac : List Bool) (Λ : List Nat → Bool) (hI : IsDF wx wx.heap.size d t ac) (hC : CanT a.L t ac Λ) (hl : ac.length ≤ 400) => automaton_any hI hC.ok hL8 (by omega))
  have hmrg := hide (fun (wx : World) (dv : Value) (t : List (List Nat)) (ac : List Bool) (hb : Below w.heap.size w wx) (hI : IsDF wx wx.heap.size dv t ac) (hC : CanT a.L t ac a.lang) (hl : ac.length ≤ 400) => merged_any hI hC.ok hL1 hL8 hl hdp (hTH.out.below hb))
  have hsub := hide (fun (wx : World) (d : Value) (m : NF) (hb : Below w.heap.size w wx) (hI : IsNF wx wx.heap.size d m) (hmo : m.OK) (hmL : m.L = a.L) (hmn : m.n ≤ 400) (hml : ∀ s x, s < m.n → x < m.L → (m.to s x).length ≤ 400) (hms : m.start.length ≤ 400) => subsets_any (k := 400) hI hmo (by omega) (by omega) (by omega) (hTH.out.below hb) (by omega) (fun mm x hm hx => by
   have h1 := NF.cat_le hml hm hx
   have h2 : m.n * 400 ≤ 400 * 400 := Nat.mul_le_mul_right _ hmn
   omega))
  have hmin : ∀ (wx : World) (d : Value) (m : NF) (all : List (List Bool)), m.L = a.L → Below w.heap.size w wx → Disc m.L m.after m.st all → all.length ≤ 400 → IsDF wx wx.heap.size d (rowsOf m all all.length) (all.map m.has) →
    Calls Tryd.prog 76 #[d] wx (Ret fun r w' => Below wx.heap.size wx w' ∧ ∃ t ac, CanT a.L t ac m.lang ∧ ac.length ≤ 400 ∧ ∀ w'', Kept w' w'' (fun k => k < wx.heap.size) → IsDF w'' w''.heap.size r t ac) := fun wx d m all hmL hb hD hl hI => by
   have hd := rowsG_dok hD (ac := all.map m.has) (by simp)
   refine Calls.ret (minimal_any (L := m.L) hI hd (by omega) (by simp; omega) (hTH.out.below hb)) ?_
   rintro r w' ⟨hb', cl, st, hW, hst', hsl, hDi, hF⟩
   refine ⟨hb', _, _, ?_, by simp at hsl ⊢; omega, hF⟩
   have h1 := (min_canT hd hW hst' hDi).congr (Λ' := m.lang) fun w hw => (subs_lang hD hw).symm
   have h2 : ∀ K, K = m.L → CanT K (rowsG m.L (clsNx (dnx (rowsG m.L m.after all all.length)) cl) (st.map fun s => cl.getD s 0) st.length) (st.map (dac (all.map m.has))) m.lang := by
    rintro _ rfl
    exact h1
   exact h2 _ hmL.symm
  have hminH := hide hmin
  have hd0 : ¬ (dp : Int) < 0 := by omega
  have hd8 : ¬ 8 < (dp : Int) := by omega
  rw [hLl] at hw1 hc2 hBx hcan hval ⊢
  clear h1 h2 h3 h4 hk1 hk2 hb1 hb2 hB1 hB2 he hst hT hok hin hbd hLl hdd hmin
  go_enter Tryd.func41, Tryd.ntmps41
  go_wp2_with fail
  refine Calls.ret hval ?_
  rintro r w3 ⟨rfl, hb3⟩
  have hb03 := hb02.trans (hb3.mono hs2)
  have hBx3 := hide (hBx.out.below hb3)
  have hR3 := hide (hR.out.below hb3)
  have hc3 := hBx3.out.cell
  clear hval hb3 hc2
  go_wp2_with fail
  refine Calls.ret (hcan.out _ hb03) ?_
  rintro r w4 ⟨hb4, hr⟩
  have hb04 := hb03.trans (hb4.mono hb03.size)
  have hBx4 := hBx3.out.below hb4
  have hR4 := hR3.out.below hb4
  have hs4 := hb04.size
  have hl4 := hR4.lt
  clear hc3
  rcases hr with ⟨hLg, rfl⟩ | ⟨hnl, t, ac, dv, hC, hacl, rfl, hDF⟩
  ·obtain ⟨w5, w6, hw5, hw6, hB5, hB6, hb46, hs46⟩ := one_box w4 sn0 sn0
   have hf5 := hB5.frozen
   have hl5 := hB5.lt
   have hc5 := hB5.cell
   have hb06 := hb04.trans (hb46.mono hs4)
   have hR6 := hR4.below hb46
   have hf6 := hR6.frozen
   have hl6 := hR6.lt
   have hc6 := hR6.cell
   obtain ⟨wF, hwF, hBF, hKF⟩ := set5_facts hR6 (.int .i64 0) (.int .i64 0) sn0 sn0 sn0
   have hBFc := hBF.cell
   have hbF := hide (hb06.trans (hKF.below hb06.size fun b hb e => by omega))
   have hLgH := hide hLg
   unfold set5 at hwF
   unfold set2 at hw6
   clear hLg hb4 hBx4 hR4 hB5 hB6 hb46 hb06 hR6 hBF hKF hb04
   go_wp2_with fail
   refine bodyPost_ret (v := .tuple #[.agg zero25, .int .i64 4]) (by simp [results, Tryd.results41, go_sem, hBFc]) rfl ⟨hbF.out, .inr (.inl ⟨hokH.out, hdpH.out, hLgH.out, rfl⟩)⟩
  ·have hD4 := hDF w4 (Kept.refl _ _)
   have hD4c := hD4
   obtain ⟨A7, c7, A8, c8, rfl, -, -⟩ := hD4c
   obtain ⟨w5, w6, hw5, hw6, hB5, hB6, hb46, hs46⟩ := one_box w4 (.slice A7 t.length c7) (.slice A8 ac.length c8)
   have hf5 := hB5.frozen
   have hl5 := hB5.lt
   have hc5 := hB5.cell
   have hb06 := hb04.trans (hb46.mono hs4)
   have hs6 := hb46.size
   have hcall := hmrg.out w6 _ t ac hb06 (hD4.keep (fun p hp => hb46.cell hp) hs6) hC hacl
   have hR6 := hide (hR4.below hb46)
   have hBx6 := hide (hBx4.below hb46)
   have hc6 := hB6.cell
   have hcx6 := hBx6.out.cell
   have hnlH := hide hnl
   have hCH := hide hC
   have haclH := hide hacl
   have hb06H := hide hb06
   unfold set2 at hw6
   obtain ⟨lr, hlr⟩ : ∃ lr, lr = t.length := ⟨_, rfl⟩
   obtain ⟨la, hla⟩ : ∃ la, la = ac.length := ⟨_, rfl⟩
   rw [← hlr] at hw6 hc6 hcall ⊢
   rw [← hla] at hw6 hc6 ⊢
   simp only [← hla] at hcall
   have hlaH := hide hla
   clear hnl hC hacl hDF hD4 hb4 hBx4 hR4 hB5 hB6 hb46 hb06 hb04 hlr hla
   go_wp2_with fail
   refine Calls.ret hcall ?_
   rintro nf w7 ⟨hb7, f, m, hf, hMg, hmo, hmn, hmlen, hmst, hNF⟩
   have hb07 := hide (hb06H.out.trans (hb7.mono hb06H.out.size))
   have hBx7 := hide (hBx6.out.below hb7)
   have hR7 := hide (hR6.out.below hb7)
   have hcall2 := hsub.out w7 nf m hb07.out hNF hmo hMg.hL hmn hmlen hmst
   have hMgO : Hid (MgOf a.L t ac dp m) := by
    rw [hlaH.out] at hf hMg
    exact ⟨f, hf, hMg⟩
   have hmL := hide hMg.hL
   clear hcall hb7 hf hMg hmo hmn hmlen hmst hNF hc6 hcx6
   go_wp2_with fail
   refine Calls.ret hcall2 ?_
   rintro r w8 ⟨hb8, d8, ⟨t8, ac8, hD8⟩, hr8⟩
   have hb08 := hb07.out.trans (hb8.mono hb07.out.size)
   have hBx8 := hBx7.out.below hb8
   have hR8 := hR7.out.below hb8
   have hl8 := hR8.lt
   have hs8 := hb08.size
   obtain ⟨P5, p5, P6, p6, rfl, -, -⟩ := hD8
   obtain ⟨w9, wA, hw9, hwA, hB9, hBA, hb8A, hs8A⟩ := one_box w8 (.slice P5 t8.length p5) (.slice P6 ac8.length p6)
   have hf9 := hB9.frozen
   have hl9 := hB9.lt
   have hc9 := hB9.cell
   have hb0A := hb08.trans (hb8A.mono hs8)
   have hRA := hR8.below hb8A
   have hBxA := hide (hBx8.below hb8A)
   have hfA := hRA.frozen
   have hlA := hRA.lt
   have hcA := hRA.cell
   have hcA9 := hBA.cell
   obtain ⟨lr8, hlr8⟩ : ∃ n, n = t8.length := ⟨_, rfl⟩
   obtain ⟨la8, hla8⟩ : ∃ n, n = ac8.length := ⟨_, rfl⟩
   rw [← hlr8, ← hla8] at hwA hr8 hcA9
   unfold set2 at hwA
   rcases hr8 with ⟨hLg, rfl⟩ | ⟨all, hDi, hal, hDF, rfl⟩
   ·obtain ⟨wF, hwF, hBF, hKF⟩ := set5_facts hRA (.int .i64 0) (.int .i64 0) sn0 sn0 sn0
    have hBFc := hBF.cell
    have hbF := hide (hb0A.trans (hKF.below hb0A.size fun b hb e => by omega))
    have hLgH := hide hLg
    unfold set5 at hwF
    clear hLg hlr8 hla8 hb8 hBx8 hR8 hB9 hBA hb8A hb0A hRA hBF hKF hb08
    go_wp2_with fail
    refine bodyPost_ret (v := .tuple #[.agg zero25, .int .i64 4]) (by simp [results, Tryd.results41, go_sem, hBFc]) rfl ⟨hbF.out, .inr (.inr ⟨hokH.out, hdpH.out, hnlH.out, t, ac, m, hCH.out, haclH.out, by rw [Int.toNat_natCast]; exact hMgO.out, .inl ⟨hLgH.out, rfl⟩⟩)⟩
   ·have hmnl := hide (NF.not_large hDi hal)
    have hDFA : IsDF wA wA.heap.size (.agg #[.slice P5 lr8 p5, .slice P6 la8 p6]) (rowsOf m all all.length) (all.map m.has) := hDF.keep (fun p hp => hb8A.cell hp) hb8A.size
    have hDFd : IsDF wA.drew wA.drew.heap.size (.agg #[.slice P5 lr8 p5, .slice P6 la8 p6]) (rowsOf m all all.length) (all.map m.has) := hDFA.keep (fun p hp => (drewB wA).cell hp) (Nat.le_refl _)
    have hb0d := hb0A.trans ((drewB wA).mono hb0A.size)
    have hcall := hminH.out _ _ _ _ hmL.out hb0d hDi hal hDFd
    have hb0AH := hide hb0d
    have hRAH := hide (hRA.below (drewB wA))
    have hcxA := hBxA.out.cell
    clear hlr8 hla8 hb8 hBx8 hR8 hB9 hBA hb8A hb0A hRA hb08 hDF hDFA hDFd hDi hal hb0d hfA hcA
    go_wp2_with fail
    refine Reg.cC [0, 1, 0, 4, 15, 31, 63] [0, 2, 3, 1, 4, 5, 6] ?_
    refine Reg.rest_walk' [0, 2, 3] [1, 4, 5, 6] rfl (by kernel_rfl) ?_
    intro Qf hQf
    go_wp2_with fail
    first | refine hQf _ _ ?_ | skip
    try clear hQf
    refine Reg.rest_act' 1 [4, 5, 6] [3] rfl (by kernel_rfl) ?_
    intro Qf hQf
    simp only [gT, gS, gZ]
    go_wp2_with fail
    refine Calls.ret hcall ?_
    rintro dB wB ⟨hbB, t', ac', hCan, hacl', hDFB⟩
    have hcallA := haut.out wB _ t' ac' _ (hDFB wB (Kept.refl _ _)) hCan hacl'
    have hb0B := hide (hb0AH.out.trans (hbB.mono hb0AH.out.size))
    have hRB := hide (hRAH.out.below hbB)
    have hCanH := hide hCan
    have haclH' := hide hacl'
    go_wp2_with fail
    first | refine hQf _ _ ⟨Reg.same_below hbB [3] rfl, ?_⟩ | refine ⟨Reg.same_below hbB [3] rfl, ?_⟩
    try clear hQf
    clear hcall hbB hDFB hCan hacl'
    refine Reg.rest_act' 4 [5, 6] [] rfl (by kernel_rfl) ?_
    intro Qf hQf
    simp only [gT, gS, gZ]
    go_wp2_with fail
    refine Calls.ret hcallA ?_
    rintro dC wC ⟨hbC, hIC⟩
    obtain ⟨mm, hmm⟩ : ∃ mm, mm = plainW a.L t' ac' := ⟨_, rfl⟩
    rw [← hmm] at hIC
    have hmmH := hide hmm
    obtain ⟨E1, k1, E2, k2, E3, k3, rfl, -⟩ := hIC wC (Kept.refl _ _)
    have hb0C := hide (hb0B.out.trans (hbC.mono hb0B.out.size))
    have hRC := hRB.out.below hbC
    have hsC := hbC.size
    have hsB := hb0B.out.size
    obtain ⟨wF, hwF, hBF, hKF⟩ := set5_facts hRC (.int .i64 mm.letters) (.int .i64 mm.states) (.slice E1 mm.start.length k1) (.slice E2 mm.accept.length k2) (.slice E3 mm.edges.length k3)
    have j1 := hRC.frozen
    have j2 := hRC.lt
    have j3 := hRC.cell
    have j4 := hBF.cell
    have hbF := hide (hb0C.out.trans (hKF.below (by have := hb0C.out.size; omega) fun b hb e => by omega))
    have hlB := hRB.out.lt
    have hfin := hide (fun w'' (hk : Kept wF w'' (fun k => k < w.heap.size)) => hIC w'' ((hKF.mono fun b _ e => by omega).trans hk fun b _ e => by omega))
    unfold set5 at hwF
    clear hcallA hmm hIC hbC hRC hBF hKF
    go_wp2_with fail
    first | refine hQf _ _ ⟨Reg.nm, ?_⟩ | refine ⟨Reg.nm, ?_⟩
    try clear hQf
    refine Reg.rest_act' 5 [6] [] rfl (by kernel_rfl) ?_
    intro Qf hQf
    simp only [gT, gS, gZ]
    go_wp2_with fail
    first | refine hQf _ _ ⟨Reg.nm, ?_⟩ | refine ⟨Reg.nm, ?_⟩
    try clear hQf
    refine Reg.rest_walk' [6] [] rfl (by kernel_rfl) ?_
    intro Qf hQf
    go_wp2_with fail
    first | refine hQf _ _ ?_ | skip
    try clear hQf
    refine Reg.rest_end ?_
    go_wp2_with fail
    refine bodyPost_ret (v := .tuple #[.agg #[.int .i64 mm.letters, .int .i64 mm.states, .slice E1 mm.start.length k1, .slice E2 mm.accept.length k2, .slice E3 mm.edges.length k3], .int .i64 0]) (by simp [results, Tryd.results41, go_sem, j4]) rfl ⟨hbF.out, .inr (.inr ⟨hokH.out, hdpH.out, hnlH.out, t, ac, m, hCH.out, haclH.out, by rw [Int.toNat_natCast]; exact hMgO.out, .inr ⟨hmnl.out, t', ac', _, hCanH.out, haclH'.out, rfl, by rw [← hmmH.out]; exact hfin.out⟩⟩)⟩
end Go.Proofs.YtpmceapjnnkhjaaDoor
namespace Go.Proofs.YtpmceapjnnkhjaaDoor
open Go.RowKit
set_option maxHeartbeats 16000000
set_option maxRecDepth 100000
theorem MgOf.more {L d : Nat} {t : List (List Nat)} {ac : List Bool} {m : NF} {Λ : List Nat → Bool} (h : MgOf L t ac d m) (hC : CanT L t ac Λ) {v : List Nat} (hv : okW L v) (ha : Λ v = true) : m.lang v = true := by
 obtain ⟨f, -, hM⟩ := h
 refine hM.more (fun q x hq hx => hC.ok.lt hq hx) hC.ok.pos hv ?_
 rw [← ha]
 exact hC.can.lang v hv
theorem lawMergeContains {vA : Value} {a : WA} {w : World} {d : Int} {A : Option Addr} {c : Nat} {l : List Int} (hA : IsWA w w.heap.size vA a) (hl : Sl w w.heap.size 1 encI A l) (hT : PowT w) :
    Calls Tryd.prog 13 #[vA, .int .i64 d, .slice A l.length c] w (Ret fun v w' => v = .bool true ∧ Below w.heap.size w w') := by
  have hAH := hide hA
  obtain ⟨A1, c1, A2, c2, A3, c3, rfl, -⟩ := hA
  obtain ⟨w1, hw1, hb1, hB1, hk1⟩ := box_blk w #[.int .i64 a.letters, .int .i64 a.states, .slice A1 a.start.length c1, .slice A2 a.accept.length c2, .slice A3 a.edges.length c3] 25
  have b01 := hide hb1
  have hBa1 := hide hB1
  have hTH := hide hT
  have hlH := hide hl
  have hln := hl.1
  have f1 := hBa1.out.cell
  have hbig := Big_any (hAH.out.keep (w' := w1) (fun p hp => b01.out.cell hp) b01.out.size)
  obtain ⟨n, hn⟩ : ∃ n, n = l.length := ⟨_, rfl⟩
  have hnH := hide hn
  rw [← hn] at hln ⊢
  clear hk1 hb1 hB1 hT hl hn
  go_enter Tryd.func13, Tryd.ntmps13
  go_wp2_with fail
  refine Calls.ret hbig ?_
  rintro r w3 ⟨rfl, hb3⟩
  have b03 := hide (b01.out.trans (hb3.mono b01.out.size))
  have hBa3 := hide (hBa1.out.below (hb3.mono (Nat.le_refl _)))
  have f3 := hBa3.out.cell
  clear hbig hb3 f1
  cases hbg : a.big with
  | true =>
    have hkn := known_any (hTH.out.below b03.out)
    go_wp2_with fail
    refine Calls.ret hkn ?_
    rintro r wk ⟨rfl, hbk⟩
    have hbK := hide (b03.out.trans (hbk.mono b03.out.size))
    clear hkn hbk
    go_wp2_with fail
    go_ret
    exact ⟨rfl, hbK.out⟩
  | false =>
    obtain ⟨g1, g2, g3⟩ := WA.big_not hbg
    clear hbg
    by_cases hlen : 100 < n
    · clear f3
      have hkn := known_any (hTH.out.below b03.out)
      go_wp2_with fail
      refine Calls.ret hkn ?_
      rintro r wk ⟨rfl, hbk⟩
      have hbK := hide (b03.out.trans (hbk.mono b03.out.size))
      clear hkn hbk
      go_wp2_with fail
      go_ret
      exact ⟨rfl, hbK.out⟩
    · have e1 : a.edges.length ≤ 3000000 := by omega
      have e3 : a.start.length ≤ 4000000 := by omega
      have hE := hide (And.intro e1 e3)
      have hmr := Merge_any (d := d) (hAH.out.keep (w' := w3) (fun p hp => b03.out.cell hp) b03.out.size) e1 e3 (hTH.out.below b03.out)
      clear g1 g2 g3 e1 e3
      go_wp2_with fail
      refine Calls.ret hmr ?_
      rintro r w5 ⟨hb5, hcase⟩
      have b05 := hide (b03.out.trans (hb5.mono b03.out.size))
      have hBa5 := hide (hBa3.out.below (hb5.mono (Nat.le_refl _)))
      clear hmr hb5 f3
      have hac1 := hide (fun (wx : World) (hb : Below w.heap.size w wx) => Accepts_any (c := c) (hAH.out.keep (w' := wx) (fun p hp => hb.cell hp) hb.size) hE.out.1 hE.out.2 (hlH.out.keep (w' := wx) (fun p hp => hb.cell hp) (Nat.le_refl _)) hb.size)
      have hcase2 : (r = .tuple #[.agg zero25, .int .i64 1] ∨ r = .tuple #[.agg zero25, .int .i64 4]) ∨ (a.ok = true ∧ ∃ t ac m, CanT a.L t ac a.lang ∧ ac.length ≤ 400 ∧ MgOf a.L t ac d.toNat m ∧ ∃ t' ac' v, CanT a.L t' ac' m.lang ∧ ac'.length ≤ 400 ∧ r = .tuple #[v, .int .i64 0] ∧ ∀ w'', Kept w5 w'' (fun k => k < w3.heap.size) → IsWA w'' w''.heap.size v (plainW a.L t' ac')) := by
        rcases hcase with ⟨-, h⟩ | ⟨-, -, -, h⟩ | ⟨hok, -, -, t, ac, m, hC, hac, hM, ⟨-, h⟩ | ⟨-, h⟩⟩
        · exact .inl (.inl h)
        · exact .inl (.inr h)
        · exact .inl (.inr h)
        · exact .inr ⟨hok, t, ac, m, hC, hac, hM, h⟩
      clear hcase
      rcases hcase2 with (rfl | rfl) | ⟨oka, t, ac, m, hC, hac, hM, t', ac', v, hC', hac', rfl, hI⟩
      iterate 2
        · simp only [zero25, sn0]
          obtain ⟨w6, w7, hw6, hw7, hB6, hB7, hb7⟩ := zero_box w5
          have b07 := hide (b05.out.trans (hb7.mono b05.out.size))
          have i1 := hB6.frozen
          have i2 := hB6.lt
          have i3 := hB6.cell
          have i4 := ((hBa5.out.below (hb7.mono (Nat.le_refl _)))).cell
          have hcall := hac1.out w7 b07.out
          rw [← hnH.out] at hcall
          unfold set5 at hw7
          unfold WA.accR at hcall
          generalize a.acc l = x1 at hcall
          generalize errno (a.accV l) = e1 at hcall
          clear hB6 hB7 hb7
          go_wp2_with fail
          refine Calls.ret hcall ?_
          rintro r w11 ⟨rfl, hb11⟩
          have b011 := hide (b07.out.trans (hb11.mono b07.out.size))
          clear hcall hb11 i1 i2 i3 i4
          have hkn := known_any (hTH.out.below b011.out)
          go_wp2_with fail
          refine Calls.ret hkn ?_
          rintro r wk ⟨rfl, hbk⟩
          have hbK := hide (b011.out.trans (hbk.mono b011.out.size))
          clear hkn hbk
          go_wp2_with fail
          go_ret
          exact ⟨rfl, hbK.out⟩
      · have hsm := plain_small oka (t := t') hac'
        have hplA := hide (fun (v : List Nat) (hv : okW a.L v) => plain_acc oka hC' hac' hv)
        have hmore := hide (fun (v : List Nat) (hv : okW a.L v) (h : a.lang v = true) => hM.more hC hv h)
        obtain ⟨mm, hm⟩ : ∃ mm, mm = plainW a.L t' ac' := ⟨_, rfl⟩
        rw [← hm] at hI hsm hplA
        have hsmH := hide hsm
        obtain ⟨E1, h1, E2, h2, E3, h3, rfl, -⟩ := hI w5 (Kept.refl _ _)
        obtain ⟨w6, hw6, hb6, hB6, hk6⟩ := box_blk w5 #[.int .i64 mm.letters, .int .i64 mm.states, .slice E1 mm.start.length h1, .slice E2 mm.accept.length h2, .slice E3 mm.edges.length h3] 25
        have b06 := hide (b05.out.trans (hb6.mono b05.out.size))
        have hI6 := hide ((hI w5 (Kept.refl _ _)).keep (w' := w6) (fun p hp => hb6.cell hp) hb6.size)
        have hBa6 := hide (hBa5.out.below (hb6.mono (Nat.le_refl _)))
        have hBm6 := hide hB6
        have i4 := hBa6.out.cell
        have hokaH := hide oka
        have hcall := hac1.out w6 b06.out
        rw [← hnH.out] at hcall
        unfold WA.accR at hcall
        clear oka hsm hm hI hb6 hB6 hk6 hC hac hM hC' hac'
        rcases a.acc_cases hokaH.out l with ⟨q1, q2⟩ | ⟨v, hlv, hv, q1, q2⟩
        · rw [q1, q2, show errno false = 1 from rfl] at hcall
          clear q1 q2
          go_wp2_with fail
          refine Calls.ret hcall ?_
          rintro r w11 ⟨rfl, hb11⟩
          have b011 := hide (b06.out.trans (hb11.mono b06.out.size))
          clear hcall hb11 i4
          have hkn := known_any (hTH.out.below b011.out)
          go_wp2_with fail
          refine Calls.ret hkn ?_
          rintro r wk ⟨rfl, hbk⟩
          have hbK := hide (b011.out.trans (hbk.mono b011.out.size))
          clear hkn hbk
          go_wp2_with fail
          go_ret
          exact ⟨rfl, hbK.out⟩
        · obtain ⟨-, u1, u2⟩ := hplA.out v hv
          have hmv := hmore.out v hv
          rw [q1, q2, show errno true = 0 from rfl] at hcall
          obtain ⟨y, hy⟩ : ∃ y, y = m.lang v := ⟨_, rfl⟩
          have hur : Hid (mm.accR l = .tuple #[.bool y, .int .i64 0]) := by show _ = _; unfold WA.accR; rw [hlv, u1, u2, hy]; rfl
          rw [← hy] at hmv
          clear q1 q2 u1 u2 hv hy
          generalize a.lang v = x at *
          have hxy := hide hmv
          clear hmv
          go_wp2_with fail
          refine Calls.ret hcall ?_
          rintro r w11 ⟨rfl, hb11⟩
          have b011 := hide (b06.out.trans (hb11.mono b06.out.size))
          have hI11 := hide (hI6.out.keep (w' := w11) (fun p hp => hb11.cell hp) hb11.size)
          have j4 := (hBm6.out.below (hb11.mono (Nat.le_refl _))).cell
          clear hcall hb11 i4
          have hcall := Accepts_any (c := c) hI11.out hsmH.out.1 hsmH.out.2 (hlH.out.keep (w' := w11) (fun p hp => b011.out.cell hp) (Nat.le_refl _)) b011.out.size
          rw [← hnH.out, hur.out] at hcall
          go_wp2_with fail
          refine Calls.ret hcall ?_
          rintro r w13 ⟨rfl, hb13⟩
          have b013 := hide (b011.out.trans (hb13.mono b011.out.size))
          clear hcall hb13 j4
          cases x <;> cases y
          all_goals first
          | (exact absurd (hxy.out rfl) (by decide))
          | (have hkn := known_any (hTH.out.below b013.out)
             go_wp2_with fail
             refine Calls.ret hkn ?_
             rintro r wk ⟨rfl, hbk⟩
             have hbK := hide (b013.out.trans (hbk.mono b013.out.size))
             clear hkn hbk
             go_wp2_with fail
             go_ret
             exact ⟨rfl, hbK.out⟩)
end Go.Proofs.YtpmceapjnnkhjaaDoor
