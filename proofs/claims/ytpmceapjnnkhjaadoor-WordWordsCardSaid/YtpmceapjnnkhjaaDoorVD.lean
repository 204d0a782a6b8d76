/-
  Part VD of a proof.
-/
import Derived.Test.YtpmceapjnnkhjaaDoorPA
import Derived.Test.YtpmceapjnnkhjaaDoorVC
import Derived.Test.YtpmceapjnnkhjaaDoorPI
import Derived.Test.YtpmceapjnnkhjaaDoorPL
set_option maxHeartbeats 16000000
set_option maxRecDepth 100000
set_option linter.unusedVariables false
set_option linter.unusedSimpArgs false
namespace Go.Proofs.YtpmceapjnnkhjaaDoor
open Go.RowKit
set_option maxHeartbeats 16000000
set_option maxRecDepth 100000
theorem words_any {w0 : World} {g2 g3 g7 g8 g9 len : Nat} {a : NF} (hC : WwC w0 g2 g3 g7 len a) (hn6 : a.n ≤ 4000000) (hl6 : len ≤ 100) : ∀ r, WordsC w0 g2 g3 g7 g8 g9 len a r := by
 intro r
 induction r with
 | zero =>
  intro w X vv vP vM vs ds p k n hW hP hpl hkr hX hpok hS hSX h9 hvs
  obtain ⟨AM, cM, rfl⟩ := slice_of_own hS
  have hne : n = (setL (runW a.after a.st p)).length := by have := hS.1; simp at this; omega
  subst hne
  have hml : (runW a.after a.st p).length = a.n := a.run_len hpok
  have hsl := setL_len (runW a.after a.st p)
  by_cases h0 : (setL (runW a.after a.st p)).length = 0
  ·have hw : a.wordsB p 0 = [] := NF.wordsB_dead (NF.dead_set h0) 0
   rw [h0, hw]
   exact words_dead hW hP
  ·obtain ⟨x0, x1, x2, x3, hb7, hNF⟩ := hC.b7
   obtain ⟨A', c', e', hSl⟩ := own_slI hS rfl (Nat.le_refl _) (by omega)
   injection e' with e1 e2 e3
   subst e1
   have hcall := words_leaf (g2 := g2) (g9 := g9) (cM := cM) (P := natL p) hW hP (by simp [natL]; omega) (by omega) (by have := hC.b3.below hW.below; rwa [show len = k from by omega] at this) (hb7.below hW.below) (hNF.keep (fun q hq => hW.below.cell hq) hW.below.size) hC.ok.acc hSl (by omega) (setL_in hml) (by simpa using hvs)
   have hw : (a.wordsB p 0).map natL = if (setL (runW a.after a.st p)).any (fun x => a.acc.getD x.toNat false) then [natL p] else [] := by
    rw [has_setL hml, NF.wordsB_zero]
    show List.map natL (if a.lang p then [p] else []) = if a.lang p then _ else _
    split <;> rfl
   rw [hw]
   exact hcall
 | succ r ih =>
  intro w X vv vP vM vs ds p k n hW hP hpl hkr hX hpok hS hSX h9 hvs
  obtain ⟨AM, cM, rfl⟩ := slice_of_own hS
  obtain ⟨AP, cP, rfl⟩ := slice_of_own hP
  have hml : (runW a.after a.st p).length = a.n := a.run_len hpok
  have hsl := setL_len (runW a.after a.st p)
  have hne : n = (setL (runW a.after a.st p)).length := by have := hS.1; simp at this; omega
  by_cases h0 : n = 0
  ·have hw : a.wordsB p (r + 1) = [] := NF.wordsB_dead (NF.dead_set (by omega)) (r + 1)
   rw [h0, hw]
   exact words_dead hW hP
  ·have f3 := (hC.b3.below hW.below).cell
   obtain ⟨y1, y2, y3, y4, hb2⟩ := hC.b2
   have f2 := (hb2.below hW.below).cell
   have hn0 : ((n : Int) == 0) = false := by simp; omega
   have hk0 : ((k : Int) == (len : Int)) = false := by simp; omega
   have hn4 : n ≤ 4000000 := by omega
   have hk4 : k ≤ 100 := by omega
   have hWH := hide hW
   have hPH := hide hP
   have hplH := hide hpl
   have hXH := hide hX
   have hpokH := hide hpok
   have hSH := hide hS
   have hSXH := hide hSX
   have h9H := hide h9
   have hvsH := hide hvs
   have hkrH := hide hkr
   clear hb2 hml hsl hne hW hP hpl hkr hX hpok hS hSX h9 hvs h0
   go_enter Tryd.func71, Tryd.ntmps71
   go_wp2_with fail
   refine words_loop hC ih hWH.out hPH.out hplH.out hkrH.out hXH.out hpokH.out hSH.out hSXH.out h9H.out hvsH.out hk4 hn4 ?_ ?_
   ·repeat (first | exact Reg.NoQ.body (fun _ _ h => h) (fun _ h => h) | refine Reg.NoQ.then ?_ | refine Reg.NoQ.inBlock ?_)
   ·iterate 15 (intro _)
    intro w' hret
    have hretH := hide hret
    clear hret
    go_wp2_with fail
    exact bodyPost_ret (v := .tuple #[]) (by simp [results, Tryd.results71, go_sem]) rfl hretH.out
end Go.Proofs.YtpmceapjnnkhjaaDoor
namespace Go.Proofs.YtpmceapjnnkhjaaDoor
open Go.RowKit
set_option maxHeartbeats 16000000
set_option maxRecDepth 100000
@[go_sem] theorem run_store_funcW {P : Program} {a : Addr} {m : Mode} {w : World} (f : Fn) (ts cs : Array Value) : (store a (.func f ts cs) m).run P w = stored P w a (.func f ts cs) m := run_store P w a _ m rfl
def WwRet (w : World) (a : WA) (len : Int) (v : Value) (w' : World) : Prop :=
 Below w.heap.size w w' ∧ (((a.ok = false ∨ len < 0 ∨ 6 < len) ∧ v = .tuple #[sn0, .int .i64 1]) ∨
  (a.ok = true ∧ 0 ≤ len ∧ len ≤ 6 ∧ ∃ d, v = .tuple #[d, .int .i64 0] ∧ R2 w' w'.heap.size d ((a.nf.wordsB [] len.toNat).map natL)))
theorem natL_len (l : List Nat) : (natL l).length = l.length := by simp [natL]
theorem wordsB_mem {a : NF} {p : List Nat} {k : Nat} (hp : okW a.L p) : ∀ q ∈ a.wordsB p k, q.length = p.length + k ∧ okW a.L q := fun q hq =>
 extK_len k (l := [p]) (n := p.length) (fun r hr => by rw [List.mem_singleton.1 hr]; exact ⟨rfl, hp⟩) q (List.mem_filter.1 hq).1
theorem Words_any {v : Value} {a : WA} {w : World} {len : Int} (h : IsWA w w.heap.size v a) (he : a.edges.length ≤ 3000000) (hst : a.start.length ≤ 4000000) (hL4 : a.ok = true → a.L ≤ 4) :
  Calls Tryd.prog 39 #[v, .int .i64 len] w (Ret fun r w' => WwRet w a len r w') := by
 have hWA := hide h
 obtain ⟨A1, c1, A2, c2, A3, c3, rfl, h1, h2, h3, h4⟩ := h
 obtain ⟨w1, hw1, hb1, hB1, hk1⟩ := box_blk w #[.int .i64 a.letters, .int .i64 a.states, .slice A1 a.start.length c1, .slice A2 a.accept.length c2, .slice A3 a.edges.length c3] 25
 obtain ⟨w2, hw2, hb2, hB2, hk2⟩ := box_blk w1 #[.int .i64 len] 3
 have l1 := hB1.lt
 have l2 := hB2.lt
 have s1 := hb1.size
 have b02 := hide (hb1.trans (hb2.mono s1))
 have hBx2 := hide (hB1.below hb2)
 have hBn2 := hide hB2
 have f1 := hBx2.out.cell
 have hval := validate_any (hWA.out.keep (w' := w2) (fun p hp => b02.out.cell hp) b02.out.size)
 have h1H := hide h1
 have hstH := hide hst
 clear hk1 hb1 hB1 hk2 hb2 hB2 h1 h2 h3 h4
 go_enter Tryd.func39, Tryd.ntmps39
 go_wp2_with fail
 refine Calls.ret hval ?_
 rintro r w3 ⟨rfl, hb3⟩
 have b03 := hide (b02.out.trans (hb3.mono b02.out.size))
 have hBx3 := hide (hBx2.out.below hb3)
 have hBn3 := hide (hBn2.out.below hb3)
 have f13 := hBx3.out.cell
 have f23 := hBn3.out.cell
 clear hval hb3 f1
 cases hok : a.ok with
 | false =>
  rw [show errno false = 1 from rfl]
  have hokH := hide hok
  clear hok
  go_wp2_with fail
  refine bodyPost_ret (v := .tuple #[sn0, .int .i64 1]) (by simp [results, Tryd.results39, go_sem, sn0]) rfl ?_
  exact ⟨b03.out, .inl ⟨.inl hokH.out, rfl⟩⟩
 | true =>
  rw [show errno true = 0 from rfl]
  have hin := (WA.ok_iff.1 hok).2
  have hbd := (WA.ok_iff.1 hok).1
  have hLl : a.letters = (a.L : Int) := by unfold WA.L; omega
  have hL4' := hide (hL4 hok)
  have hokH := hide hok
  have hn4 := hide (show a.nf.n ≤ 4000000 from by rw [a.nf_n]; unfold WA.n; omega)
  by_cases d1 : len < 0
  ·clear hok hin hbd hLl
   go_wp2_with fail
   refine bodyPost_ret (v := .tuple #[sn0, .int .i64 1]) (by simp [results, Tryd.results39, go_sem, sn0]) rfl ?_
   exact ⟨b03.out, .inl ⟨.inr (.inl d1), rfl⟩⟩
  ·by_cases d2 : 6 < len
   ·clear hok hin hbd hLl
    go_wp2_with fail
    refine bodyPost_ret (v := .tuple #[sn0, .int .i64 1]) (by simp [results, Tryd.results39, go_sem, sn0]) rfl ?_
    exact ⟨b03.out, .inl ⟨.inr (.inr d2), rfl⟩⟩
   ·obtain ⟨k, rfl⟩ := Int.eq_ofNat_of_zero_le (show 0 ≤ len by omega)
    have hk6 : k ≤ 6 := by omega
    have hnet := network_any (hWA.out.keep (w' := w3) (fun p hp => b03.out.cell hp) b03.out.size) hin ⟨by omega, by omega⟩ ⟨by omega, by omega⟩ he
    have hinH := hide hin
    rw [hLl] at hBx3 f13
    rw [hLl] at hnet ⊢
    clear hok hin hbd hLl
    go_wp2_with fail
    refine Calls.ret hnet ?_
    rintro nf w4 ⟨hNF, hb4⟩
    have b04 := hide (b03.out.trans (hb4.mono b03.out.size))
    have hBx4 := hide (hBx3.out.below hb4)
    have hBn4 := hide (hBn3.out.below hb4)
    have hNFH := hide hNF
    obtain ⟨B1, e1, B2, e2, B3, e3, rfl, -⟩ := hNF
    obtain ⟨w5, hw5, hb5, hB5, hk5⟩ := box_blk w4 #[.int .i64 (a.nf.L : Int), .slice B1 a.nf.nx.length e1, .slice B2 a.nf.start.length e2, .slice B3 a.nf.acc.length e3] 79
    obtain ⟨w6, hw6, hb6, hB6, hk6⟩ := box_blk w5 #[sn0] 50
    obtain ⟨w7, hw7, hb7, hB7, hk7⟩ := box_blk w6 #[.nilFunc] 98
    have i7 := hB7.frozen
    have j7 := hB7.lt
    have c7 := hB7.cell
    obtain ⟨w8, hw8⟩ : ∃ w8, w7.setCell ⟨w6.heap.size, 0, none⟩ (cloW w.heap.size w1.heap.size w4.heap.size w5.heap.size w6.heap.size) = w8 := ⟨_, rfl⟩
    have hK8 := (Kept.refl w7 (fun b => b = w6.heap.size)).setCell (p := ⟨w6.heap.size, 0, none⟩) (fun _ => rfl) (cloW w.heap.size w1.heap.size w4.heap.size w5.heap.size w6.heap.size)
    have hB8 := hB7.set_ 0 (cloW w.heap.size w1.heap.size w4.heap.size w5.heap.size w6.heap.size)
    rw [hw8] at hK8 hB8
    have l4 := hB5.lt
    have l5 := hB6.lt
    have s4 := hb5.size
    have s5 := hb6.size
    have s6 := hb7.size
    have b58 : Below w5.heap.size w5 w8 := hb6.trans ((hb7.mono s5).trans (hK8.below (by omega) fun b hb e => by omega))
    have b48 : Below w4.heap.size w4 w8 := hb5.trans (b58.mono s4)
    have hcon := hide (show WwC w5 w.heap.size w1.heap.size w4.heap.size k a.nf from
     ⟨⟨_, _, _, _, hBx4.out.below hb5⟩, hBn4.out.below hb5, ⟨_, _, _, _, hB5, hNFH.out.keep (fun q hq => hb5.cell hq) hb5.size⟩, WA.nf_ok hinH.out, by have := hL4'.out; show a.L ≤ 8; omega, fun m x hm hx => by
      have := WA.cat_len (a := a) (hm.trans a.nf_n) hx
      omega⟩)
    have hmem := hide (show WwM w5 w8 w5.heap.size (fun _ => False) sn0 [] [] from
     ⟨b58, (hB6.below hb7).kept hK8 (by omega), own_nil, RowsI.nil, Nat.le_refl _, fun _ e => e.elim⟩)
    have hclo := hide (show Blk w8 w6.heap.size 98 #[cloW w.heap.size w1.heap.size w4.heap.size w5.heap.size w6.heap.size] from hB8)
    have fx := ((hBx4.out.below b48)).cell
    have f9 := hB8.cell
    have hw8H := hide hw8
    have b48H := hide b48
    have hb5H := hide hb5
    unfold cloW at hw8 f9
    have hsort := sorted_any (c := c1) (h1H.out.keep (w' := w8.drew) (B' := w.heap.size) (fun p hp => ((b04.out.trans (b48.mono b04.out.size)).trans ((drewB w8).mono (b04.out.trans (b48.mono b04.out.size)).size)).cell hp) (Nat.le_refl _)) hstH.out
    have hmf := run_mf
    clear hb5 hB5 hk5 hb6 hB6 hk6 hb7 hB7 hk7 hK8 hB8 b58 b48 hb4 f13 f23 hnet
    go_wp2_with fail
    refine Reg.cC [0, 0, 2, 6, 15] [0, 1, 2, 3, 4] ?_
    refine Reg.rest_walk' [0, 1, 2] [3, 4] rfl (by kernel_rfl) ?_
    intro Qf hQf
    go_wp2_with fail
    first | refine hQf _ _ ?_ | skip
    try clear hQf
    refine Reg.rest_act' 3 [4] [0] rfl (by kernel_rfl) ?_
    intro Qf hQf
    simp only [gT, gS, gZ]
    go_wp2_with fail
    refine Calls.ret hsort ?_
    rintro vS w9 ⟨hownS, hb9⟩
    have hb9H := hide ((drewB w8).trans hb9)
    have hmem9 := hide (hmem.out.keep hb9H.out)
    have hownSH := hide hownS
    obtain ⟨AS, cS, rfl⟩ := slice_of_own hownS
    go_wp2_with fail
    first | refine hQf _ _ ⟨Reg.same_below hb9 [0] rfl, ?_⟩ | refine ⟨Reg.same_below hb9 [0] rfl, ?_⟩
    try clear hQf
    clear hsort hb9 hownS
    have hsl := hide (show (sortU a.start).length = (setL a.nf.st).length from by rw [show a.start = a.nf.start from rfl, NF.sort_start (WA.nf_ok hinH.out)])
    have hcall := words_any hcon.out hn4.out (show k ≤ 100 by omega) k w9 (fun _ => False) sn0 (.slice none 0 0) (.slice AS (sortU a.start).length cS) [] [] [] 0 (sortU a.start).length hmem9.out own_nil rfl (by omega) (fun g hg => by simp [Value.ownBlock] at hg) (okW.nil _)
     (by
      have h1 := hownSH.out
      rw [show a.start = a.nf.start from rfl, NF.sort_start (WA.nf_ok hinH.out)] at h1 ⊢
      exact own_mono h1 (by have := b48H.out.size; have := hmem.out.below.size; exact this)) (fun _ _ e => e) (hclo.out.below hb9H.out) (by
      have h1 : a.nf.L ^ k ≤ 4 ^ 6 := Nat.le_trans (Nat.pow_le_pow_left (show a.nf.L ≤ 4 from hL4'.out) k) (Nat.pow_le_pow_right (by omega) hk6)
      simp only [List.length_nil]
      omega)
    refine Reg.rest_act' 4 [] [] rfl (by kernel_rfl) ?_
    intro Qf hQf
    simp only [gT, gS, gZ]
    go_wp2_with fail
    refine Calls.ret hcall ?_
    rintro rr wA hret
    obtain ⟨vv', vs', hWA', hvl, -, -, -⟩ := hret
    have hboxA := hWA'.box
    have fA := hboxA.cell
    obtain ⟨AV, cV, rfl⟩ := slice_of_own hWA'.row
    have hWF := hide hWA'
    have hvlH := hide hvl
    clear hcall hWA' hvl hboxA f9 hmf
    go_wp2_with fail
    first | refine hQf _ _ ⟨Reg.nm, ?_⟩ | refine ⟨Reg.nm, ?_⟩
    try clear hQf
    refine Reg.rest_end ?_
    go_wp2_with fail
    refine bodyPost_ret (v := .tuple #[.slice AV vs'.length cV, .int .i64 0]) (by simp [results, Tryd.results39, go_sem]) rfl ?_
    have hfin := hWF.out
    rw [List.nil_append] at hfin
    have hle : ((a.nf.wordsB [] k).map natL).length ≤ 4000000 := by
     rw [List.length_map]
     refine Nat.le_trans (a.nf.wordsB_len [] k) ?_
     have h1 : a.nf.L ^ k ≤ 4 ^ 6 := Nat.le_trans (Nat.pow_le_pow_left (show a.nf.L ≤ 4 from hL4'.out) k) (Nat.pow_le_pow_right (by omega) hk6)
     omega
    have hvl := hvlH.out
    rw [List.length_nil, Nat.zero_add] at hvl
    have hrd := hfin.rows.read (B := wA.heap.size) hfin.row (by rw [hvl]; exact hle) (Nat.le_refl _) (fun d hd => by
     obtain ⟨q, hq, rfl⟩ := List.mem_map.1 hd
     have := (wordsB_mem (okW.nil _) q hq).1
     rw [natL_len, this]
     simp only [List.length_nil]
     omega)
    refine ⟨b04.out.trans ((hb5H.out.trans (hfin.below.mono hb5H.out.size)).mono b04.out.size), .inr ⟨hokH.out, by omega, by omega, _, rfl, ?_⟩⟩
    rw [Int.toNat_natCast]
    exact hrd
end Go.Proofs.YtpmceapjnnkhjaaDoor
