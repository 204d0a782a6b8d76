/-
  Part ML of a proof.
-/
import Derived.Test.YtpmceapjnnkhjaaDoorPA
import Derived.Test.YtpmceapjnnkhjaaDoorMK
import Derived.Test.YtpmceapjnnkhjaaDoorMI
import Derived.Test.YtpmceapjnnkhjaaDoorLG
import Derived.Test.YtpmceapjnnkhjaaDoorPJ
import Derived.Test.YtpmceapjnnkhjaaDoorME
set_option maxHeartbeats 16000000
set_option maxRecDepth 100000
set_option linter.unusedVariables false
set_option linter.unusedSimpArgs false
namespace Go.Proofs.YtpmceapjnnkhjaaDoor
open Go.RowKit
set_option maxHeartbeats 16000000
set_option maxRecDepth 100000
def RefMinRet (w : World) (a : WA) (v : Value) (w' : World) : Prop :=
 Below w.heap.size w w' ∧ ((a.nf.Large 400 ∧ v = .tuple #[.agg zero25, .int .i64 4]) ∨
  (¬ a.nf.Large 400 ∧ ∃ t ac d, CanT a.L t ac a.lang ∧ ac.length ≤ 400 ∧ v = .tuple #[d, .int .i64 0] ∧ ∀ w'', Kept w' w'' (fun k => k < w.heap.size) → IsWA w'' w''.heap.size d (plainW a.L t ac)))
theorem one_boxR (w : World) (x0 x1 : Value) : ∃ w5 wA, w.alloc (.cells #[sn0, sn0] 95) = w5 ∧ set2 w5 w.heap.size x0 x1 = wA ∧ Blk w5 w.heap.size 95 #[sn0, sn0] ∧ Blk wA w.heap.size 95 #[x0, x1] ∧ Below w.heap.size w wA ∧ w.heap.size < wA.heap.size := by
 obtain ⟨w5, hw5, hb5, hB5, hk5⟩ := box_blk w #[sn0, sn0] 95
 obtain ⟨wA, hwA, hBA, hKA⟩ := set2_facts hB5 x0 x1
 exact ⟨w5, wA, hw5, hwA, hB5, hBA, hb5.trans (hKA.below hb5.size fun b hb e => by omega), hBA.lt⟩
theorem refminimal_any {v : Value} {a : WA} {w : World} (h : IsWA w w.heap.size v a) (hin : a.In) (hS : 0 ≤ a.states ∧ a.states ≤ 200000) (hLl : 0 ≤ a.letters ∧ a.letters ≤ 8) :
  Calls Tryd.prog 54 #[v] w (Ret fun r w' => RefMinRet w a r w') := by
 have hWH := hide h
 obtain ⟨A1, c1, A2, c2, A3, c3, rfl, -⟩ := h
 have hLe : a.letters = (a.L : Int) := by unfold WA.L; omega
 have hL8 := hide (show a.L ≤ 8 from by unfold WA.L; omega)
 obtain ⟨w1, hw1, hb1, hB1, hk1⟩ := box_blk w #[.int .i64 a.letters, .int .i64 a.states, .slice A1 a.start.length c1, .slice A2 a.accept.length c2, .slice A3 a.edges.length c3] 25
 obtain ⟨w2, hw2, hb2, hB2, hk2⟩ := box_blk w1 zero25 25
 have s1 := hb1.size
 have l1 := hB1.lt
 have b02 := hide (hb1.trans (hb2.mono s1))
 have hBx2 := hide (hB1.below hb2)
 have hBr2 := hide hB2
 have f1 := hBx2.out.cell
 have hsub := refsubsets_any (k := 400) (hWH.out.keep (w' := w2) (fun p hp => b02.out.cell hp) b02.out.size) hin hS hLl (by omega)
 rw [hLe] at hw1 f1 hsub hBx2 ⊢
 clear hb1 hB1 hk1 hb2 hB2 hk2 hin hS hLl hLe
 go_enter Tryd.func54, Tryd.ntmps54
 go_wp2_with fail
 refine Calls.ret hsub ?_
 rintro r w4 ⟨hb4, hr⟩
 have b04 := hide (b02.out.trans (hb4.mono b02.out.size))
 have hBx4 := hide (hBx2.out.below hb4)
 have hBr4 := hide (hBr2.out.below hb4)
 have s4 := b04.out.size
 have l4 := hBr4.out.lt
 have s2 := b02.out.size
 have s24 := hb4.size
 clear hsub hb4 f1
 rcases hr with ⟨hLg, rfl⟩ | ⟨all, d, hD, hal, hO, rfl⟩
 ·obtain ⟨w5, w6, hw5, hw6, hB5, hB6, hb46, hs46⟩ := one_boxR w4 sn0 sn0
  have hf5 := hB5.frozen
  have hl5 := hB5.lt
  have hc5 := hB5.cell
  have hb06 := b04.out.trans (hb46.mono s4)
  have hR6 := hBr4.out.below hb46
  have hf6 := hR6.frozen
  have hl6 := hR6.lt
  have hc6 := hR6.cell
  obtain ⟨wF, hwF, hBF, hKF⟩ := set5_facts hR6 (.int .i64 0) (.int .i64 0) sn0 sn0 sn0
  have hBFc := hBF.cell
  have hbF := hide (hb06.trans (hKF.below hb06.size fun b hb e => by omega))
  have hLgH := hide hLg
  unfold set5 at hwF
  unfold set2 at hw6
  clear hLg hB5 hB6 hb46 hb06 hR6 hBF hKF
  go_wp2_with fail
  refine bodyPost_ret (v := .tuple #[.agg zero25, .int .i64 4]) (by simp [results, Tryd.results54, go_sem, hBFc]) rfl ⟨hbF.out, .inl ⟨hLgH.out, rfl⟩⟩
 ·have hnl := hide (NF.not_large (a := a.nf) hD hal)
  have hdk : DOK a.L (rowsG a.L a.nf.after all all.length) (all.map a.nf.has) := rowsG_dok hD (by simp)
  have hrd := hO.read (fun r hr => by
   have h1 := (hdk.row r hr).1
   have h2 := hL8.out
   omega) (by rw [rowsG_len (Nat.le_refl _)]; omega) (by rw [List.length_map]; omega)
  obtain ⟨vN, vA, ws, rfl, hA, hN, -⟩ := hO
  obtain ⟨AN, cN, rfl⟩ := slice_of_own hN
  obtain ⟨AA, cA, rfl⟩ := slice_of_own hA
  obtain ⟨w5, w6, hw5, hw6, hB5, hB6, hb46, hs46⟩ := one_boxR w4 (.slice AN (rowsG a.L a.nf.after all all.length).length cN) (.slice AA (all.map a.nf.has).length cA)
  have hf5 := hB5.frozen
  have hl5 := hB5.lt
  have hc5 := hB5.cell
  have hc6 := hB6.cell
  have b06 := hide (b04.out.trans (hb46.mono s4))
  have hR6 := hide (hBr4.out.below hb46)
  have hx6 := (hBx4.out.below hb46).cell
  have hT6 : TabF w6 a.L all.length (.slice AN (rowsG a.L a.nf.after all all.length).length cN) (.slice AA (all.map a.nf.has).length cA) (rowsG a.L a.nf.after all all.length) (all.map a.nf.has) := ⟨hrd.keep (fun p hp => hb46.cell hp) hb46.size, hdk, by simp⟩
  have hcan := refcanon_any hT6 (by omega) hL8.out
  have hlang := hide (fun (t' : List (List Nat)) (ac' : List Bool) (h : CanT a.L t' ac' (langT (rowsG a.L a.nf.after all all.length) (all.map a.nf.has))) => h.congr (Λ' := a.lang) fun z hz => (rowsG_lang hD a.nf.has hz).symm)
  have halH := hide hal
  obtain ⟨lr, hlr⟩ : ∃ n, n = (rowsG a.L a.nf.after all all.length).length := ⟨_, rfl⟩
  obtain ⟨la, hla⟩ : ∃ n, n = (all.map a.nf.has).length := ⟨_, rfl⟩
  rw [← hlr, ← hla] at hw6 hc6 hcan ⊢
  unfold set2 at hw6
  have s6 := b06.out.size
  have s46 := hb46.size
  clear hD hal hA hN hrd hdk hB5 hB6 hb46 hT6 hlr hla
  go_wp2_with fail
  refine Calls.ret hcan ?_
  rintro d w7 ⟨hb7, t', ac', hC, hacl, hI⟩
  obtain ⟨A1', c1', A2', c2', A3', c3', rfl, -, -, -, -⟩ := hI w7 (Kept.refl _ _)
  have hR7 := hR6.out.below hb7
  have hf7 := hR7.frozen
  have hl7 := hR7.lt
  have hc7 := hR7.cell
  have hs7 := hb7.size
  have hCH := hide (hlang.out t' ac' hC)
  have haclH := hide (Nat.le_trans hacl halH.out)
  generalize (plainW a.L t' ac').letters = x0 at hI ⊢
  generalize (plainW a.L t' ac').states = x1 at hI ⊢
  generalize (plainW a.L t' ac').start.length = n1 at hI ⊢
  generalize (plainW a.L t' ac').accept.length = n2 at hI ⊢
  generalize (plainW a.L t' ac').edges.length = n3 at hI ⊢
  obtain ⟨wF, hwF, hBF, hKF⟩ := set5_facts hR7 (.int .i64 x0) (.int .i64 x1) (.slice A1' n1 c1') (.slice A2' n2 c2') (.slice A3' n3 c3')
  have hBFc := hBF.cell
  have hbF := hide ((b06.out.trans (hb7.mono s6)).trans (hKF.below (by omega) fun b hb e => by omega))
  have hlR6 := hR6.out.lt
  have hfin := hide (fun w'' (hk : Kept wF w'' (fun k => k < w.heap.size)) => hI w'' ((hKF.mono (fun b _ e => by omega)).trans hk (fun b _ e => by omega)))
  unfold set5 at hwF
  clear hcan hI hR7 hBF hKF hb7 hC hacl
  go_wp2_with fail
  refine bodyPost_ret (v := .tuple #[.agg #[.int .i64 x0, .int .i64 x1, .slice A1' n1 c1', .slice A2' n2 c2', .slice A3' n3 c3'], .int .i64 0]) (by simp [results, Tryd.results54, go_sem, hBFc]) rfl ⟨hbF.out, .inr ⟨hnl.out, t', ac', _, hCH.out, haclH.out, rfl, hfin.out⟩⟩
theorem refMinimal_any {v : Value} {a : WA} {w : World} (h : IsWA w w.heap.size v a) :
  Calls Tryd.prog 24 #[v] w (Ret fun r w' => MinRet w a r w') := by
 have hWA := hide h
 obtain ⟨A1, c1, A2, c2, A3, c3, rfl, -⟩ := h
 obtain ⟨w1, hw1, hb1, hB1, hk1⟩ := box_blk w #[.int .i64 a.letters, .int .i64 a.states, .slice A1 a.start.length c1, .slice A2 a.accept.length c2, .slice A3 a.edges.length c3] 25
 obtain ⟨w2, hw2, hb2, hB2, hk2⟩ := box_blk w1 zero25 25
 have hs1 := hb1.size
 have b02 := hide (hb1.trans (hb2.mono hs1))
 have hs2 := b02.out.size
 have hBx := hide (hB1.below hb2)
 have hR := hide hB2
 have hc2 := hBx.out.cell
 have hl1 := hB1.lt
 have hval := refValidate_any (hWA.out.keep (w' := w2) (fun p hp => b02.out.cell hp) hs2)
 clear hb1 hB1 hk1 hb2 hB2 hk2
 cases hok : a.ok
 ·rw [hok, show errno false = 1 from rfl] at hval
  have hokH := hide hok
  clear hok
  go_enter Tryd.func24, Tryd.ntmps24
  go_wp2_with fail
  refine Calls.ret hval ?_
  rintro r w3 ⟨rfl, hb3⟩
  have hR3 := hR.out.below hb3
  have hf3 := hR3.frozen
  have hl3 := hR3.lt
  have hc3 := hR3.cell
  obtain ⟨wF, hwF, hBF, hKF⟩ := set5_facts hR3 (.int .i64 0) (.int .i64 0) sn0 sn0 sn0
  have hBFc := hBF.cell
  have hb03 := b02.out.trans (hb3.mono hs2)
  have hbF := hide (hb03.trans (hKF.below hb03.size fun b hb e => by omega))
  unfold set5 at hwF
  clear hval hb3 hR3 hBF hKF hb03 hc2
  go_wp2_with fail
  refine bodyPost_ret (v := .tuple #[.agg zero25, .int .i64 1]) (by simp [results, Tryd.results24, go_sem, hBFc]) rfl ⟨hbF.out, .inl ⟨hokH.out, rfl⟩⟩
 ·rw [hok, show errno true = 0 from rfl] at hval
  have hin := (WA.ok_iff.1 hok).2
  have hbd := (WA.ok_iff.1 hok).1
  have hcan := hide (fun (wx : World) (hb : Below w.heap.size w wx) => refminimal_any (hWA.out.keep (w' := wx) (fun p hp => hb.cell hp) hb.size) hin ⟨by omega, by omega⟩ ⟨by omega, by omega⟩)
  have hokH := hide hok
  clear hok hin hbd
  go_enter Tryd.func24, Tryd.ntmps24
  go_wp2_with fail
  refine Calls.ret hval ?_
  rintro r w3 ⟨rfl, hb3⟩
  have hb03 := hide (b02.out.trans (hb3.mono hs2))
  have hBx3 := hide (hBx.out.below hb3)
  have hR3 := hide (hR.out.below hb3)
  have hc3 := hBx3.out.cell
  have hcall := hcan.out w3 hb03.out
  clear hval hb3 hc2
  go_wp2_with fail
  refine Calls.ret hcall ?_
  rintro r w4 ⟨hb4, hr⟩
  have hb04 := hide (hb03.out.trans (hb4.mono hb03.out.size))
  have hR4 := hR3.out.below hb4
  have hf4 := hR4.frozen
  have hl4 := hR4.lt
  have hc4 := hR4.cell
  have hs34 := hb4.size
  have hs03 := hb03.out.size
  have hl3 := hR3.out.lt
  clear hcall hc3
  rcases hr with ⟨hLg, rfl⟩ | ⟨hnl, t, ac, d, hC, hacl, rfl, hI⟩
  ·obtain ⟨wF, hwF, hBF, hKF⟩ := set5_facts hR4 (.int .i64 0) (.int .i64 0) sn0 sn0 sn0
   have hBFc := hBF.cell
   have hbF := hide (hb04.out.trans (hKF.below hb04.out.size fun b hb e => by omega))
   have hLgH := hide hLg
   unfold set5 at hwF
   clear hLg hb4 hR4 hBF hKF
   go_wp2_with fail
   refine bodyPost_ret (v := .tuple #[.agg zero25, .int .i64 4]) (by simp [results, Tryd.results24, go_sem, hBFc]) rfl ⟨hbF.out, .inr (.inl ⟨hokH.out, hLgH.out, rfl⟩)⟩
  ·obtain ⟨A1', c1', A2', c2', A3', c3', rfl, -, -, -, -⟩ := hI w4 (Kept.refl _ _)
   generalize (plainW a.L t ac).letters = x0 at hI ⊢
   generalize (plainW a.L t ac).states = x1 at hI ⊢
   generalize (plainW a.L t ac).start.length = n1 at hI ⊢
   generalize (plainW a.L t ac).accept.length = n2 at hI ⊢
   generalize (plainW a.L t ac).edges.length = n3 at hI ⊢
   obtain ⟨wF, hwF, hBF, hKF⟩ := set5_facts hR4 (.int .i64 x0) (.int .i64 x1) (.slice A1' n1 c1') (.slice A2' n2 c2') (.slice A3' n3 c3')
   have hBFc := hBF.cell
   have hbF := hide (hb04.out.trans (hKF.below hb04.out.size fun b hb e => by omega))
   have hfin := hide (fun w'' (hk : Kept wF w'' (fun k => k < w.heap.size)) => hI w'' ((hKF.mono (fun b _ e => by omega)).trans hk (fun b _ e => by omega)))
   have hCH := hide hC
   have haclH := hide hacl
   have hnlH := hide hnl
   unfold set5 at hwF
   clear hI hR4 hBF hKF hb4 hC hacl hnl
   go_wp2_with fail
   refine bodyPost_ret (v := .tuple #[.agg #[.int .i64 x0, .int .i64 x1, .slice A1' n1 c1', .slice A2' n2 c2', .slice A3' n3 c3'], .int .i64 0]) (by simp [results, Tryd.results24, go_sem, hBFc]) rfl ⟨hbF.out, .inr (.inr ⟨hokH.out, hnlH.out, t, ac, _, hCH.out, haclH.out, rfl, hfin.out⟩)⟩
end Go.Proofs.YtpmceapjnnkhjaaDoor
namespace Go.Proofs.YtpmceapjnnkhjaaDoor
open Go.RowKit
set_option maxHeartbeats 16000000
set_option maxRecDepth 100000
theorem own_empty (w : World) (e : TypeId) (size : Nat) : (w.alloc (.cells #[] e)).ownsRow w.heap.size e size (.slice (some ⟨w.heap.size, 0, none⟩) 0 0) 0 [] :=
 ⟨by simp, .inr ⟨w.heap.size, 0, #[], rfl, Nat.le_refl _, heap_alloc_new w _, Nat.le_refl _, by unfold maxLen; omega, by simp, by simp⟩⟩
theorem news_of {D : Type} {w : World} {B sz b off : Nat} {enc : D → Nat → Value} {ds : List D} {xs : List Value} (hs : Sl w B sz enc (some ⟨b, off, none⟩) ds) (hne : ds ≠ []) (hz : 0 < sz) (hlen : xs.length = ds.length * sz)
  (hx : ∀ (k j : Nat) (d : D), ds[k]? = some d → j < sz → xs[k * sz + j]? = some (enc d j)) : ∀ (j : Nat) (u : Value), xs[j]? = some u → w.cell? ((⟨b, off, none⟩ : Addr).add j) = some u := by
 intro j u hu
 have hj := lt_of_get hu
 obtain ⟨b', o', e, hb', hall⟩ := hs.2 hne
 have e := Option.some.inj e
 injection e with e1 e2 _
 subst e1 e2
 have hk : j / sz < ds.length := Nat.div_lt_of_lt_mul (by rw [Nat.mul_comm, ← hlen]; exact hj)
 obtain ⟨d, hd⟩ := get_lt hk
 have hr := Nat.mod_lt j hz
 have hsum : j / sz * sz + j % sz = j := by rw [Nat.mul_comm]; exact Nat.div_add_mod j sz
 have h1 := hx (j / sz) (j % sz) d hd hr
 rw [hsum, hu] at h1
 have h2 := hall (j / sz) d hd (j % sz) hr
 rw [show off + j / sz * sz + j % sz = off + j from by omega] at h2
 have hadd : (⟨b, off, none⟩ : Addr).add j = ⟨b, off + j, none⟩ := by unfold Addr.add; split <;> simp_all
 rw [hadd, h2, ← Option.some.inj h1]
section
variable {P : Program} {ops : Array Oper} {rest : List Oper} {o : Oper} {a : Act} {Q : Exit → Act → World → Prop}
theorem wpList_copy {D : Type} {w : World} {t e sz B n c : Nat} {enc : D → Nat → Value} {ds : List D} {xs : List Value} {A : Option Addr} (R : RowTy P t e sz) (hgd : o.guard = none) (s x : Operand)
  (ho : o.op = .call { callee := .builtin .append, args := #[s, x], argTypes := #[t, t] }) (hs : a.eval s = .slice (some ⟨w.heap.size, 0, none⟩) 0 0) (hx : a.eval x = .slice A n c) (hn : n = ds.length)
  (hsl : Sl w B sz enc A ds) (hB : B ≤ w.heap.size) (hne : ds ≠ []) (hlen : xs.length = ds.length * sz) (hxs : ∀ (k j : Nat) (d : D), ds[k]? = some d → j < sz → xs[k * sz + j]? = some (enc d j)) (h1 : ∀ u ∈ xs, u.oneCell' = true) (hbig : ds.length ≤ 4000000)
  (h : ∀ g cap w', w'.ownsRow w.heap.size e sz (.slice (some ⟨g, 0, none⟩) n cap) n xs → Below w.heap.size w w' → g < w'.heap.size → wpList P ops Q rest (a.put o.dst (.slice (some ⟨g, 0, none⟩) n cap)) w') :
  wpList P ops Q (o :: rest) a (w.alloc (.cells #[] e)) := by
 obtain ⟨b, off, rfl, hb, -⟩ := hsl.2 hne
 subst hn
 have hb0 := (Below.refl w.heap.size w).alloc (Nat.le_refl _) (.cells #[] e)
 have hsl' : Sl (w.alloc (.cells #[] e)) B sz enc (some ⟨b, off, none⟩) ds := hsl.keep (fun p hp => World.cell?_alloc_lt w _ p (by omega)) (Nat.le_refl _)
 have hpos : 0 < ds.length := by cases ds; exact absurd rfl hne; simp
 refine wpList_app R hgd s x ho w.heap.size _ 0 [] hs (own_empty w e sz) ⟨b, off, none⟩ ds.length c xs hx hlen (news_of hsl' hne R.pos hlen hxs) h1 hpos (by omega) (by simp) ?_
 intro g cap w' hown hk hmv hg
 have e0 : 0 + ds.length = ds.length := Nat.zero_add _
 rw [e0, List.nil_append] at hown
 rw [e0]
 exact h g cap w' hown (hb0.trans (hk.below (by simp) (fun b' hb' e => by simp [Value.ownBlock] at e; omega))) hg
end
section
variable {ops : Array Oper} {rest : List Oper} {o : Oper} {a : Act} {Q : Exit → Act → World → Prop}
theorem wpList_zero {w : World} {c t : Nat} {g : Addr} {A : Option Addr} (ht : t = 22 ∨ t = 23) (hgd : o.guard = none) (s x : Operand)
  (ho : o.op = .call { callee := .builtin .append, args := #[s, x], argTypes := #[t, t] }) (hs : a.eval s = .slice (some g) 0 0) (hx : a.eval x = .slice A 0 c)
  (h : wpList Tryd.prog ops Q rest (a.put o.dst (.slice (some g) 0 0)) w) : wpList Tryd.prog ops Q (o :: rest) a w := by
 refine wpList_plain hgd fun K hK => ?_
 have e1 : ∀ w' : World, Sem.run Tryd.prog (pure (#[] : Array Value)) w' = .ok #[] w' := fun _ => rfl
 have e2 : ∀ (ad : Addr) (w' : World), Sem.run Tryd.prog (storeCells ad ([] : List Value)) w' = .ok () w' := fun _ _ => rfl
 have hk := hK _ _ h
 obtain ⟨dst, op, type, pos, after, guard⟩ := o
 dsimp only at ho hgd
 subst ho hgd
 unfold Oper.wp execOp
 rcases ht with rfl | rfl
 all_goals
  cases A
  all_goals
   simp only [resolve, invoke, builtin, Sem.run_bind, Sem.run_pure, Result.andThen_ok, List.map_toArray, List.map_cons, List.map_nil, hs, hx]
   go_simp
   exact hk
theorem wpList_cp {D : Type} {w : World} {B n c t e sz : Nat} {enc : D → Nat → Value} {ds : List D} {xs : List Value} {A : Option Addr} (R : RowTy Tryd.prog t e sz) (ht : t = 22 ∨ t = 23) (hgd : o.guard = none) (s x : Operand)
  (ho : o.op = .call { callee := .builtin .append, args := #[s, x], argTypes := #[t, t] }) (hs : a.eval s = .slice (some ⟨w.heap.size, 0, none⟩) 0 0) (hx : a.eval x = .slice A n c) (hn : n = ds.length)
  (hsl : Sl w B sz enc A ds) (hB : B ≤ w.heap.size) (hlen : xs.length = ds.length * sz) (hxs : ∀ (k j : Nat) (d : D), ds[k]? = some d → j < sz → xs[k * sz + j]? = some (enc d j)) (h1 : ∀ u ∈ xs, u.oneCell' = true) (hbig : ds.length ≤ 4000000)
  (h : ∀ g cap w', w'.ownsRow w.heap.size e sz (.slice (some ⟨g, 0, none⟩) n cap) n xs → Below w.heap.size w w' → g < w'.heap.size → wpList Tryd.prog ops Q rest (a.put o.dst (.slice (some ⟨g, 0, none⟩) n cap)) w') :
  wpList Tryd.prog ops Q (o :: rest) a (w.alloc (.cells #[] e)) := by
 by_cases hne : ds = []
 ·subst hne hn
  have hx0 : xs = [] := List.length_eq_zero_iff.1 (by simpa using hlen)
  subst hx0
  exact wpList_zero ht hgd s x ho hs hx (h _ _ _ (own_empty w e sz) ((Below.refl w.heap.size w).alloc (Nat.le_refl _) _) (by simp))
 ·exact wpList_copy R hgd s x ho hs hx hn hsl hB hne hlen hxs h1 hbig h
end
theorem ints_get (xs : List Int) : ∀ (k j : Nat) (d : Int), xs[k]? = some d → j < 1 → (xs.map (Value.int .i64))[k * 1 + j]? = some (encI d j) := fun k j d hd hj => by
 have hj0 : j = 0 := by omega
 subst hj0
 rw [Nat.mul_one, Nat.add_zero, List.getElem?_map, hd]
 rfl
theorem eC_len (l : List Edg) : (l.flatMap eC).length = l.length * 3 := by
 induction l with
 | nil => rfl
 | cons x l ih => rw [List.flatMap_cons, List.length_append, ih, List.length_cons, Nat.succ_mul]; simp [eC]; omega
theorem eC_one (l : List Edg) : ∀ u ∈ l.flatMap eC, u.oneCell' = true := by
 intro u hu
 obtain ⟨x, -, hx⟩ := List.mem_flatMap.1 hu
 simp [eC] at hx
 rcases hx with rfl | rfl | rfl <;> rfl
theorem copyInts_any {w : World} {B c n : Nat} {A : Option Addr} {xs : List Int} (h : Sl w B 1 encI A xs) (hB : B ≤ w.heap.size) (hl : n = xs.length) (hn : xs.length ≤ 4000000) :
  Calls Tryd.prog 51 #[.slice A n c] w (Ret fun r w' => Below w.heap.size w w' ∧ w'.ownsRow w.heap.size 3 1 r n (xs.map (Value.int .i64))) := by
 have hH := hide h
 have hlH := hide hl
 clear h hl
 go_enter Tryd.func51, Tryd.ntmps51
 go_wp2_with (at_builtin; refine wpList_cp (w := w) (xs := xs.map (Value.int .i64)) row3 (.inl rfl) rfl _ _ rfl rfl rfl hlH.out hH.out hB (by simp) (ints_get xs) (by simp [Value.oneCell']) hn ?_; intro g cap w' hown hb hg; have hoH := hide hown; have hbH := hide hb; clear hown hb)
 go_ret
 exact ⟨hbH.out, hoH.out⟩
theorem own_cap {w : World} {base e size n c : Nat} {A : Option Addr} {xs : List Value} (h : w.ownsRow base e size (.slice A n c) n xs) : n ≤ c := by
 rcases h.2 with ⟨h0, hn⟩ | ⟨g, cap, cur, hv, hb, hh, hc, _⟩
 ·omega
 ·injection hv with _ _ h3
  omega
theorem copyAutomaton_any {v : Value} {a : WA} {w : World} (h : IsWA w w.heap.size v a) (hs : a.start.length ≤ 4000000) (ha : a.accept.length ≤ 4000000) (he : a.edges.length ≤ 4000000) :
    Calls Tryd.prog 22 #[v] w (Ret fun r w' => Below w.heap.size w w' ∧ IsWA w' w'.heap.size r a) := by
  obtain ⟨A1, c1, A2, c2, A3, c3, rfl, h1, h2, h3, -⟩ := h
  obtain ⟨w1, hw1, hb1, hB1, hk1⟩ := box_blk w #[.int .i64 a.letters, .int .i64 a.states, .slice A1 a.start.length c1, .slice A2 a.accept.length c2, .slice A3 a.edges.length c3] 25
  obtain ⟨w2, hw2, hb2, hB2, hk2⟩ := box_blk w1 zero25 25
  obtain ⟨w3, hw3, hb3, hB3, hk3⟩ := box_blk w2 #[.int .i64 a.letters, .int .i64 a.states, .slice A1 a.start.length c1, .slice A2 a.accept.length c2, .slice A3 a.edges.length c3] 25
  have l1 := hB1.lt
  have l2 := hB2.lt
  have l3 := hB3.lt
  have s1 := hb1.size
  have s2 := hb2.size
  have s3 := hb3.size
  have b03 := hide (hb1.trans ((hb2.mono s1).trans (hb3.mono (by omega))))
  have hBa3 := hide ((hB1.below hb2).below hb3)
  have hBr3 := hide (hB2.below hb3)
  have hBo3 := hide hB3
  have f1 := hBa3.out.cell
  have f0 := (hB1.below hb2).cell
  have hcall := copyInts_any (c := c1) (h1.keep (w' := w3) (fun p hp => b03.out.cell hp) b03.out.size) (Nat.le_refl _) rfl hs
  have h2H := hide h2
  have h3H := hide h3
  clear hb1 hB1 hk1 hb2 hB2 hk2 hb3 hB3 hk3 h1 h2 h3
  go_enter Tryd.func22, Tryd.ntmps22
  go_wp2_with fail
  refine Calls.ret hcall ?_
  rintro r4 w4 ⟨hb4, ho4⟩
  obtain ⟨P4, p4, rfl⟩ := slice_of_own ho4
  have b04 := b03.out.trans (hb4.mono b03.out.size)
  have hBa4 := hBa3.out.below hb4
  have hBr4 := hBr3.out.below hb4
  have hBo4 := hBo3.out.below hb4
  obtain ⟨w5, hw5⟩ : ∃ w5, w4.setCell ⟨w2.heap.size, 2, none⟩ (.slice P4 a.start.length p4) = w5 := ⟨_, rfl⟩
  have hk5 : Kept w4 w5 (fun k => k = w2.heap.size) := hw5 ▸ (Kept.refl w4 (fun k => k = w2.heap.size)).setCell (p := ⟨w2.heap.size, 2, none⟩) (fun _ => rfl) _
  have hBo5 : Blk w5 w2.heap.size 25 #[.int .i64 a.letters, .int .i64 a.states, .slice P4 a.start.length p4, .slice A2 a.accept.length c2, .slice A3 a.edges.length c3] := by
    have := hBo4.set_ 2 (.slice P4 a.start.length p4)
    rw [hw5] at this
    simpa using this
  have s4 := hb4.size
  have s04 := b04.size
  have hsa := hide (own_ty hk5 ho4 (fun g cs e hB => by subst e; exact hB.ne_ hBo4 (by decide) rfl))
  have b05 := hide (b04.trans (hk5.below s04 fun b hb e => by omega))
  have hBa5 := hide (hBa4.kept hk5 (by omega))
  have hBr5 := hide (hBr4.kept hk5 (by omega))
  have g1 := hBo4.frozen
  have g2 := hBo4.lt
  have g3 := hBo4.cell
  have g4 := hBa5.out.cell
  have hcall2 := copyInts_any (c := c2) (h2H.out.keep (w' := w5) (fun p hp => b05.out.cell hp) b05.out.size) (Nat.le_refl _) rfl ha
  have hBo5H := hide hBo5
  have s5 := hk5.size
  clear hcall hb4 ho4 b04 hBa4 hBr4 hBo4 hBo5 hk5 f1 f0
  go_wp2_with fail
  refine Calls.ret hcall2 ?_
  rintro r6 w6 ⟨hb6, ho6⟩
  obtain ⟨P6, p6, rfl⟩ := slice_of_own ho6
  have b06 := b05.out.trans (hb6.mono b05.out.size)
  have hBa6 := hBa5.out.below hb6
  have hBr6 := hBr5.out.below hb6
  have hBo6 := hBo5H.out.below hb6
  have hsa6 := own_below hsa.out hb6
  obtain ⟨w7, hw7⟩ : ∃ w7, w6.setCell ⟨w2.heap.size, 3, none⟩ (.slice P6 a.accept.length p6) = w7 := ⟨_, rfl⟩
  have hk7 : Kept w6 w7 (fun k => k = w2.heap.size) := hw7 ▸ (Kept.refl w6 (fun k => k = w2.heap.size)).setCell (p := ⟨w2.heap.size, 3, none⟩) (fun _ => rfl) _
  have hBo7 : Blk w7 w2.heap.size 25 #[.int .i64 a.letters, .int .i64 a.states, .slice P4 a.start.length p4, .slice P6 a.accept.length p6, .slice A3 a.edges.length c3] := by
    have := hBo6.set_ 3 (.slice P6 a.accept.length p6)
    rw [hw7] at this
    simpa using this
  have s6 := hb6.size
  have s06 := b06.size
  have hsa7 := hide (own_ty hk7 hsa6 (fun g cs e hB => by subst e; exact hB.ne_ hBo6 (by decide) rfl))
  have hac7 := hide (own_ty hk7 ho6 (fun g cs e hB => by subst e; exact hB.ne_ hBo6 (by decide) rfl))
  have b07 := hide (b06.trans (hk7.below s06 fun b hb e => by omega))
  have hBa7 := hide (hBa6.kept hk7 (by omega))
  have hBr7 := hide (hBr6.kept hk7 (by omega))
  have hBo7H := hide hBo7
  have i1 := hBo6.frozen
  have i2 := hBo6.lt
  have i3 := hBo6.cell
  have i4 := hBa7.out.cell
  have i5 := hBa7.out.lt
  have i6 := hBo7.lt
  have hsl := hide (h3H.out.keep (w' := w7) (fun p hp => b07.out.cell hp) (Nat.le_refl _))
  have s7 := b07.out.size
  have s67 := hk7.size
  clear hcall2 hb6 ho6 b06 hBa6 hBr6 hBo6 hBo7 hk7 hsa6 g1 g2 g3 g4
  go_wp2_with (
    at_builtin
    refine wpList_cp (w := w7) (xs := a.edges.flatMap eC) row35 (.inr rfl) rfl _ _ rfl rfl rfl rfl hsl.out s7 (eC_len _) (fun k j d hd hj => flat3_get hd hj) (eC_one _) he ?_
    intro g8 cap8 w8 ho8 hb8 hg8
    have hBo8 := hBo7H.out.below hb8
    have hBr8 := hBr7.out.below hb8
    have hsa8 := own_below hsa7.out hb8
    have hac8 := own_below hac7.out hb8
    obtain ⟨w9, hw9⟩ : ∃ w9, w8.setCell ⟨w2.heap.size, 4, none⟩ (.slice (some ⟨g8, 0, none⟩) a.edges.length cap8) = w9 := ⟨_, rfl⟩
    have hk9 : Kept w8 w9 (fun k => k = w2.heap.size) := hw9 ▸ (Kept.refl w8 (fun k => k = w2.heap.size)).setCell (p := ⟨w2.heap.size, 4, none⟩) (fun _ => rfl) _
    have hBo9 : Blk w9 w2.heap.size 25 #[.int .i64 a.letters, .int .i64 a.states, .slice P4 a.start.length p4, .slice P6 a.accept.length p6, .slice (some ⟨g8, 0, none⟩) a.edges.length cap8] := (by
      have := hBo8.set_ 4 (.slice (some ⟨g8, 0, none⟩) a.edges.length cap8)
      rw [hw9] at this
      simpa using this)
    have s8 := hb8.size
    have hsa9 := hide (own_ty hk9 hsa8 (fun g cs e hB => (by subst e; exact hB.ne_ hBo8 (by decide) rfl)))
    have hac9 := hide (own_ty hk9 hac8 (fun g cs e hB => (by subst e; exact hB.ne_ hBo8 (by decide) rfl)))
    have hed9 := hide (own_ty hk9 ho8 (fun g cs e hB => (by subst e; exact hB.ne_ hBo8 (by decide) rfl)))
    have b09 := hide ((b07.out.trans (hb8.mono s7)).trans (hk9.below (by omega) fun b hb e => (by omega)))
    have hBr9 := hide (hBr8.kept hk9 (by omega))
    have k1 := hBo8.frozen
    have k2 := hBo8.lt
    have k3 := hBo8.cell
    have k4 := hBo9.cell
    have k5 := hBr9.out.frozen
    have k6 := hBr9.out.lt
    have k7 := hBr9.out.cell
    clear ho8 hb8 hBo8 hBr8 hsa8 hac8 hBo9 hk9 i1 i2 i3 i4)
  obtain ⟨wF, hwF, hBF, hKF⟩ := set5_facts hBr9.out (.int .i64 a.letters) (.int .i64 a.states) (.slice P4 a.start.length p4) (.slice P6 a.accept.length p6) (.slice (some ⟨g8, 0, none⟩) a.edges.length cap8)
  have hBFc := hBF.cell
  have hbF : Below w.heap.size w wF := b09.out.trans (hKF.below b09.out.size fun b hb e => by omega)
  have t3 : ∀ {e : TypeId} {base n sz : Nat} {v : Value} {xs : List Value}, e ≠ 25 → w9.ownsRow base e sz v n xs → wF.ownsRow base e sz v n xs := fun he ho => own_ty hKF ho (fun g cs e hB => by subst e; exact hB.ne_ hBr9.out he rfl)
  have r1 := t3 (by decide) hsa9.out
  have r2 := t3 (by decide) hac9.out
  have r3 := t3 (by decide) hed9.out
  have q1 := own_cap r1
  obtain ⟨_, _, e1, y1⟩ := own_slI (B := wF.heap.size) r1 rfl (Nat.le_refl _) (by omega)
  obtain ⟨_, _, e2, y2⟩ := own_slI (B := wF.heap.size) r2 rfl (Nat.le_refl _) (by omega)
  obtain ⟨_, _, e3, y3⟩ := own_slE (B := wF.heap.size) r3 rfl (Nat.le_refl _) (by omega)
  injection e1 with e1 _ e1c
  injection e2 with e2 _ e2c
  injection e3 with e3 _ e3c
  subst e1 e2 e3
  first
  | (change bodyPost _ _ _ _ _ (set5 _ w1.heap.size (.int .i64 a.letters) (.int .i64 a.states) (.slice _ a.start.length p4) (.slice _ a.accept.length p6) (.slice (some ⟨g8, 0, none⟩) a.edges.length cap8))
     rw [hwF])
  | skip
  exact bodyPost_ret (v := .agg #[.int .i64 a.letters, .int .i64 a.states, .slice _ a.start.length p4, .slice _ a.accept.length p6, .slice (some ⟨g8, 0, none⟩) a.edges.length cap8]) (by simp [results, Tryd.results22, go_sem, hBFc]) rfl ⟨hbF, _, _, _, _, _, _, rfl, y1, y2, y3, q1⟩
end Go.Proofs.YtpmceapjnnkhjaaDoor
namespace Go.Proofs.YtpmceapjnnkhjaaDoor
open Go.RowKit
set_option maxHeartbeats 16000000
set_option maxRecDepth 100000
def zeroWA : WA := ⟨0, 0, [], [], []⟩
theorem zero_is (w : World) : IsWA w w.heap.size (.agg zero25) zeroWA := ⟨none, 0, none, 0, none, 0, rfl, Sl.nil rfl, Sl.nil rfl, Sl.nil rfl, Nat.le_refl _⟩
theorem MinRetO.get {w w' : World} {a : WA} {r : Value} (h : MinRetO w a r w') : Below w.heap.size w w' ∧ ∃ (mm : WA) (e : Int) (d : Value), r = .tuple #[d, .int .i64 e] ∧ IsWA w' w'.heap.size d mm ∧ OwnE w' w.heap.size d mm.edges ∧ mm.edges.length ≤ 4000 ∧
  ∀ (w2 w2' : World) (r2 : Value), MinRet w2 a r2 w2' → Below w2.heap.size w2 w2' ∧ ∃ d2, r2 = .tuple #[d2, .int .i64 e] ∧ IsWA w2' w2'.heap.size d2 mm := by
 obtain ⟨hb, ⟨h1, rfl⟩ | ⟨h1, h2, rfl⟩ | ⟨h1, h2, t, ac, d, hC, hac, rfl, hI, hO⟩⟩ := h
 ·refine ⟨hb, zeroWA, 1, _, rfl, zero_is _, ⟨_, _, _, _, sn0, rfl, own_nil⟩, by simp [zeroWA], fun w2 w2' r2 h' => ?_⟩
  obtain ⟨hb', ⟨-, rfl⟩ | ⟨g1, -, -⟩ | ⟨g1, -, -⟩⟩ := h'
  ·exact ⟨hb', _, rfl, zero_is _⟩
  ·rw [h1] at g1; cases g1
  ·rw [h1] at g1; cases g1
 ·refine ⟨hb, zeroWA, 4, _, rfl, zero_is _, ⟨_, _, _, _, sn0, rfl, own_nil⟩, by simp [zeroWA], fun w2 w2' r2 h' => ?_⟩
  obtain ⟨hb', ⟨g1, -⟩ | ⟨-, -, rfl⟩ | ⟨-, g1, -⟩⟩ := h'
  ·rw [h1] at g1; cases g1
  ·exact ⟨hb', _, rfl, zero_is _⟩
  ·exact (g1 h2).elim
 ·have h8 := (WA.ok_iff.1 h1).1
  have e1 : a.L ≤ 8 := by unfold WA.L; omega
  have e2 : ac.length * a.L ≤ 400 * 8 := Nat.mul_le_mul hac e1
  refine ⟨hb, plainW a.L t ac, 0, d, rfl, hI w' (Kept.refl _ _), hO, by rw [plainW_edges]; omega, fun w2 w2' r2 h' => ?_⟩
  obtain ⟨hb', ⟨g1, -⟩ | ⟨-, g1, -⟩ | ⟨-, -, t', ac', d', hC', -, rfl, hI'⟩⟩ := h'
  ·rw [h1] at g1; cases g1
  ·exact (h2 g1).elim
  ·obtain ⟨rfl, rfl⟩ := hC'.unique hC fun _ _ => rfl
   exact ⟨hb', d', rfl, hI' w2' (Kept.refl _ _)⟩
theorem own_setG {w : World} {base n g cap o size : Nat} {e : TypeId} {xs : List Value} (h : w.ownsRow base e size (.slice (some ⟨g, 0, none⟩) n cap) n xs) (u : Value) :
  (w.setCell ⟨g, o, none⟩ u).ownsRow base e size (.slice (some ⟨g, 0, none⟩) n cap) n (xs.set o u) := by
 refine ⟨by simpa using h.1, .inr ?_⟩
 rcases h.2 with ⟨hv, _⟩ | ⟨g', cap', cur, hv, hb, hh, h1, h2, h3, h4⟩
 ·cases hv
 ·injection hv with hg _ hc
  injection hg with hg
  injection hg with hg
  subst hg hc
  exact ⟨g, cap, _, rfl, hb, Blk.set_ hh o u, h1, h2, by simpa using h3, by rw [Array.toList_setIfInBounds, List.take_set, h4]⟩
theorem own_cellG {w : World} {base n size : Nat} {e : TypeId} {v : Value} {xs : List Value} (h : w.ownsRow base e size v n xs) {o : Nat} (ho : o < n * size) : ∃ g cap u, v = .slice (some ⟨g, 0, none⟩) n cap ∧ base ≤ g ∧ g < w.heap.size ∧ w.cell? ⟨g, o, none⟩ = some u ∧ w.frozen? ⟨g, o, none⟩ = false := by
 rcases h.2 with ⟨rfl, h0⟩ | ⟨g, cap, cur, rfl, hb, hh, h1, h2, h3, h4⟩
 ·rw [h0, Nat.zero_mul] at ho; omega
 ·have hB : Blk w g e cur := hh
  have h5 := Nat.mul_le_mul_right size h1
  have hl : o < cur.size := by omega
  exact ⟨g, cap, cur[o], rfl, hb, hB.lt, by rw [hB.cell, Array.getElem?_eq_getElem hl], hB.frozen o⟩
theorem law_stain {w : World} {base g4 k f2 : Nat} {C2 : Option Addr} {x0 x1 x2 x3 : Value} {xs : List Value} (hrow : w.ownsRow base 35 3 (.slice C2 k f2) k xs) (hb : Blk w g4 25 #[x0, x1, x2, x3, .slice C2 k f2]) (hk : k ≤ 4000) (hbase : base ≤ w.heap.size)
  {u0 u1 u2 u3 u5 u6 u7 u8 u10 u11 u12 u13 u14 u15 u16 u17 u18 u19 u20 u21 u22 u23 u24 u25 u26 u27 u28 u29 u30 u31 u32 u33 u34 u35 u36 u37 u38 u39 u40 u41 u42 u43 u44 u45 u46 u47 u48 u49 u50 u51 u52 u53 : Value}
  {Q : Exit → Act → World → Prop}
  (hQ : ∀ (x9 x33 x34 x35 x36 x37 x38 x39 x40 x41 x42 x43 x44 : Value) (w' : World), Below base w w' → Q (.exit 0) ⟨List.toArray (u0 :: u1 :: u2 :: u3 :: (.pointer (some ⟨g4, 0, none⟩)) :: u5 :: u6 :: u7 :: u8 :: x9 :: u10 :: u11 :: u12 :: u13 :: u14 :: u15 :: u16 :: u17 :: u18 :: u19 :: u20 :: u21 :: u22 :: u23 :: u24 :: u25 :: u26 :: u27 :: u28 :: u29 :: u30 :: u31 :: u32 :: x33 :: x34 ::
   x35 :: x36 :: x37 :: x38 :: x39 :: x40 :: x41 :: x42 :: x43 :: x44 :: u45 :: u46 :: u47 :: u48 :: u49 :: u50 :: u51 :: u52 :: u53 :: []), []⟩ w') :
  (Code.loop (loopBody Tryd.f4 0)).wp Tryd.prog Q ⟨List.toArray (u0 :: u1 :: u2 :: u3 :: (.pointer (some ⟨g4, 0, none⟩)) :: u5 :: u6 :: u7 :: u8 :: (.int .i64 0) :: u10 :: u11 :: u12 :: u13 :: u14 :: u15 :: u16 :: u17 :: u18 :: u19 :: u20 :: u21 :: u22 :: u23 :: u24 :: u25 :: u26 :: u27 :: u28 :: u29 :: u30 :: u31 :: u32 ::
   u33 :: u34 :: u35 :: u36 :: u37 :: u38 :: u39 :: u40 :: u41 :: u42 :: u43 :: u44 :: u45 :: u46 :: u47 :: u48 :: u49 :: u50 :: u51 :: u52 :: u53 :: []), []⟩ w := by
 conv => arg 2; arg 1; whnf
 go_loopw [9] (fun ii wr => ∃ (i : Nat) (xs' : List Value), ii = .int .i64 (i : Int) ∧ i ≤ k ∧ Below base w wr ∧ wr.ownsRow base 35 3 (.slice C2 k f2) k xs' ∧ Blk wr g4 25 #[x0, x1, x2, x3, .slice C2 k f2]) (fun ii _ => k - (intOf ii).toNat)
 case atStart => exact ⟨0, xs, rfl, Nat.zero_le _, Below.refl _ _, hrow, hb⟩
 case round =>
  obtain ⟨i, xs', rfl, hi, hB, hr, hb4⟩ := hrel
  have hc4 := hb4.cell
  by_cases hlt : i < k
  ·obtain ⟨g, cap, u, hv, hbg, hgl, hc, hf⟩ := own_cellG hr (o := i * 3 + 2) (by omega)
   injection hv with hv _ hv3
   subst hv hv3
   have hne : ¬ g4 = g := fun e => by subst e; exact own_blk_ne hr hb4 (by decide) rfl
   have hks : Kept wr (wr.setCell ⟨g, i * 3 + 2, none⟩ (.int .i64 99)) (fun b => b = g) := (Kept.refl wr (fun b => b = g)).setCell (p := ⟨g, i * 3 + 2, none⟩) (fun _ => rfl) _
   have hfin : Hid (Below base w (wr.setCell ⟨g, i * 3 + 2, none⟩ (.int .i64 99)) ∧ (wr.setCell ⟨g, i * 3 + 2, none⟩ (.int .i64 99)).ownsRow base 35 3 (.slice (some ⟨g, 0, none⟩) k f2) k (xs'.set (i * 3 + 2) (.int .i64 99)) ∧ Blk (wr.setCell ⟨g, i * 3 + 2, none⟩ (.int .i64 99)) g4 25 #[x0, x1, x2, x3, .slice (some ⟨g, 0, none⟩) k f2]) :=
    ⟨hB.trans (hks.below (Nat.le_trans hbase hB.size) fun b hb e => by omega), own_setG hr _, hb4.kept hks hne⟩
   clear hB hr hb4 hks
   go_wp2_with fail
   exact ⟨⟨i + 1, _, by go_num, by omega, by simpa using hfin.out.1, by simpa using hfin.out.2.1, by simpa using hfin.out.2.2⟩, by simp [intOf]; omega⟩
  ·have hBH := hide hB
   clear hB
   go_wp2_with fail
   first | exact hBH.out | exact hQ _ _ _ _ _ _ _ _ _ _ _ _ _ wr hBH.out
theorem lawMinimals {vA : Value} {a : WA} {w : World} (hA : IsWA w w.heap.size vA a) (hT : PowT w) :
  Calls Tryd.prog 4 #[vA] w (Ret fun v w' => v = .bool true ∧ Below w.heap.size w w') := by
 have hAH := hide hA
 obtain ⟨A1, c1, A2, c2, A3, c3, rfl, -⟩ := hA
 obtain ⟨w1, hw1, hb1, hB1, hk1⟩ := box_blk w #[.int .i64 a.letters, .int .i64 a.states, .slice A1 a.start.length c1, .slice A2 a.accept.length c2, .slice A3 a.edges.length c3] 25
 have b01 := hide hb1
 have hBa1 := hide hB1
 have hTH := hide hT
 have f1 := hBa1.out.cell
 have hbig := Big_any (hAH.out.keep (w' := w1) (fun p hp => b01.out.cell hp) b01.out.size)
 clear hk1 hb1 hB1 hT
 go_enter Tryd.func4, Tryd.ntmps4
 go_wp2_with fail
 refine Calls.ret hbig ?_
 rintro r w3 ⟨rfl, hb3⟩
 have b03 := hide (b01.out.trans (hb3.mono b01.out.size))
 have hBa3 := hide (hBa1.out.below (hb3.mono (Nat.le_refl _)))
 have f3 := hBa3.out.cell
 clear hbig hb3 f1
 cases hbg : a.big with
 | true =>
  have hkn := known_any (hTH.out.below b03.out)
  go_wp2_with fail
  refine Calls.ret hkn ?_
  rintro r wk ⟨rfl, hbk⟩
  have hbK := hide (b03.out.trans (hbk.mono b03.out.size))
  clear hkn hbk
  go_wp2_with fail
  go_ret
  exact ⟨rfl, hbK.out⟩
 | false =>
  obtain ⟨g1, g2, g3⟩ := WA.big_not hbg
  have hE := hide (show a.edges.length ≤ 3000000 ∧ a.start.length ≤ 4000000 ∧ a.accept.length ≤ 4000000 from ⟨by omega, by omega, by omega⟩)
  have hcp := copyAutomaton_any (hAH.out.keep (w' := w3) (fun p hp => b03.out.cell hp) b03.out.size) (by omega) (by omega) (by omega)
  clear hbg g1 g2 g3
  go_wp2_with fail
  refine Calls.ret hcp ?_
  rintro r w4 ⟨hb4, hI4⟩
  have hbo := lay_box hI4
  obtain ⟨E1, h1, E2, h2, E3, h3, w5, rfl, hw5, hb5, hB5, hI5⟩ := hbo
  have b35 := hb4.trans (hb5.mono hb4.size)
  have b05 := hide (b03.out.trans (b35.mono b03.out.size))
  have hBa5 := hide (hBa3.out.below (b35.mono (Nat.le_refl _)))
  have hBo5 := hide hB5
  have hIo5 := hide hI5
  have f5 := hBo5.out.cell
  have hcall := refmin_own hI5 hE.out.1 hE.out.2.1 (hTH.out.below b05.out)
  clear hcp hb4 hI4 hb5 hB5 hI5 b35 f3
  go_wp2_with fail
  refine Calls.ret hcall ?_
  intro r w6 hret
  obtain ⟨hb6, mm, e, d, rfl, hI6, hO6, hme, hoth⟩ := hret.get
  have hbo := lay_box hI6
  obtain ⟨F1, f1, F2, f2, F3, f3, w7, rfl, hw7, hb7, hB7, hI7⟩ := hbo
  have b57 := hb6.trans (hb7.mono hb6.size)
  have b07 := hide (b05.out.trans (b57.mono b05.out.size))
  have hB57 := hide b57
  have hBa7 := hide (hBa5.out.below (b57.mono (Nat.le_refl _)))
  have hBo7 := hide (hBo5.out.below (b57.mono (Nat.le_refl _)))
  have hBm7 := hide hB7
  have hIm7 := hide hI7
  have hrow7 : Hid (w7.ownsRow w5.heap.size 35 3 (.slice F3 mm.edges.length f3) mm.edges.length (mm.edges.flatMap eC)) := by
   obtain ⟨x0, x1, x2, x3, vE, e1, hE1⟩ := hO6
   injection e1 with e1
   simp only [Array.mk.injEq, List.cons.injEq, and_true] at e1
   obtain ⟨-, -, -, -, rfl⟩ := e1
   exact own_below hE1 hb7
  have hothH := hide hoth
  have hmeH := hide hme
  have f7 := hBa7.out.cell
  have hcall2 := refMinimal_any (hAH.out.keep (w' := w7) (fun p hp => b07.out.cell hp) b07.out.size)
  clear hcall hret hb6 hI6 hO6 hoth hb7 hB7 hI7 b57 hme f5
  go_wp2_with fail
  refine Calls.ret hcall2 ?_
  intro r w8 hret
  obtain ⟨hb8, d2, rfl, hI8⟩ := hothH.out w7 w8 r hret
  have hbo := lay_box hI8
  obtain ⟨G1, g1, G2, g2, G3, g3, w9, rfl, hw9, hb9, hB9, hI9⟩ := hbo
  have b79 := hb8.trans (hb9.mono hb8.size)
  have b09 := hide (b07.out.trans (b79.mono b07.out.size))
  have hB79 := hide b79
  have hBa9 := hide (hBa7.out.below (b79.mono (Nat.le_refl _)))
  have hBo9 := hide (hBo7.out.below (b79.mono (Nat.le_refl _)))
  have hBm9 := hide (hBm7.out.below (b79.mono (Nat.le_refl _)))
  have hIm9 := hIm7.out.keep (w' := w9) (fun p hp => b79.cell hp) b79.size
  have hrow9 := hide (own_below hrow7.out b79)
  have f9 := hBm9.out.cell
  have f10 := hB9.cell
  have hsa := sameAutomaton_any hIm9 hI9
  rw [decide_eq_true (rfl : mm = mm)] at hsa
  have hee : (e == e) = true := by simp
  clear hcall2 hret hb8 hI8 hb9 hB9 hI9 b79 hIm9 f7
  go_wp2_with fail
  refine Calls.ret hsa ?_
  rintro r w10 ⟨rfl, hb10⟩
  have b59 := hB57.out.trans (hB79.out.mono hB57.out.size)
  have b510 := hide (b59.trans (hb10.mono b59.size))
  have b010 := hide (b09.out.trans (hb10.mono b09.out.size))
  have hBm10 := hide (hBm9.out.below (hb10.mono (Nat.le_refl _)))
  have hrow10 := hide (own_below hrow9.out hb10)
  have hBa10 := hide (hBa9.out.below (hb10.mono (Nat.le_refl _)))
  have hBo10 := hide (hBo9.out.below (hb10.mono (Nat.le_refl _)))
  clear hsa hb10 f9 f10 b59
  go_wp2_with fail
  refine law_stain hrow10.out hBm10.out hmeH.out b510.out.size ?_
  iterate 13 (intro _)
  intro w11 hb11
  have b511 := hide (b510.out.trans hb11)
  have b011 := hide (b010.out.trans (hb11.mono b05.out.size))
  have f11 := (hBo10.out.at (show w4.heap.size < w5.heap.size from by have := hBo5.out.lt; exact this) hb11).cell
  have f12 := (hBa10.out.at (show w.heap.size < w5.heap.size from by have := hBo5.out.lt; have := hBa5.out.lt; omega) hb11).cell
  have hsa := sameAutomaton_any (hIo5.out.keep (w' := w11) (fun p hp => b511.out.cell hp) b511.out.size) (hAH.out.keep (w' := w11) (fun p hp => b011.out.cell hp) b011.out.size)
  rw [decide_eq_true (rfl : a = a)] at hsa
  clear hb11 hee
  go_wp2_with fail
  refine Calls.ret hsa ?_
  rintro r w12 ⟨rfl, hb12⟩
  have b012 := hide (b011.out.trans (hb12.mono b011.out.size))
  have hkn := known_any (hTH.out.below b012.out)
  clear hsa hb12 f11 f12
  go_wp2_with fail
  refine Calls.ret hkn ?_
  rintro r wk ⟨rfl, hbk⟩
  have hbK := hide (b012.out.trans (hbk.mono b012.out.size))
  clear hkn hbk
  go_wp2_with fail
  go_ret
  exact ⟨rfl, hbK.out⟩
end Go.Proofs.YtpmceapjnnkhjaaDoor
