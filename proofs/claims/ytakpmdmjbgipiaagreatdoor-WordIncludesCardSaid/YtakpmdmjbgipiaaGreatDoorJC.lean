/-
  Part JC of a proof.
-/
import Derived.Test.YtakpmdmjbgipiaaGreatDoorPA
import Derived.Test.YtakpmdmjbgipiaaGreatDoorJB
set_option maxHeartbeats 16000000
set_option maxRecDepth 100000
set_option linter.unusedVariables false
set_option linter.unusedSimpArgs false
namespace Go.Proofs.YtakpmdmjbgipiaaGreatDoor
open Go.RowKit
set_option maxHeartbeats 16000000
set_option maxRecDepth 100000
def SubRetR (w : World) (a : WA) (k : Nat) (v : Value) (w' : World) : Prop :=
 Below w.heap.size w w' ∧ ((a.nf.Large k ∧ v = .tuple #[.agg #[sn0, sn0], .bool false]) ∨ (∃ all d, Disc a.L a.nf.after a.nf.st all ∧ all.length ≤ k ∧ OwnDF w' w.heap.size d (rowsG a.L a.nf.after all all.length) (all.map a.nf.has) ∧ v = .tuple #[d, .bool true]))
theorem sb_mem (w : World) (cs : Array Value) : ∃ w1 w2 w3, w.alloc (.cells cs 28) = w1 ∧ w1.alloc (.cells #[sn0, sn0] 77) = w2 ∧ w2.alloc (.cells #[sn0, sn0] 77) = w3 ∧ Below w.heap.size w w3 ∧ Blk w3 w.heap.size 28 cs ∧ Blk w3 w1.heap.size 77 #[sn0, sn0] ∧ Blk w3 w2.heap.size 77 #[sn0, sn0] ∧ w.heap.size < w1.heap.size ∧ w1.heap.size < w2.heap.size ∧ w2.heap.size < w3.heap.size := by
 obtain ⟨w1, h1, hb1, hB1, -⟩ := box_blk w cs 28
 obtain ⟨w2, h2, hb2, hB2, -⟩ := box_blk w1 #[sn0, sn0] 77
 obtain ⟨w3, h3, hb3, hB3, -⟩ := box_blk w2 #[sn0, sn0] 77
 have l1 := hB1.lt
 have l2 := hB2.lt
 have l3 := hB3.lt
 exact ⟨w1, w2, w3, h1, h2, h3, hb1.trans ((hb2.mono (by omega)).trans (hb3.mono (by omega))), (hB1.below hb2).below hb3, hB2.below hb3, hB3, l1, l2, l3⟩
theorem sb_start {w w3 w4 : World} {g2 g4 g6 gm : Nat} {cs : Array Value} {m : List Bool} (hb3 : Below w.heap.size w w3) (h2 : Blk w3 g2 28 cs) (h4 : Blk w3 g4 77 #[sn0, sn0]) (h6 : Blk w3 g6 77 #[sn0, sn0]) (hge : w.heap.size ≤ g2 ∧ w.heap.size ≤ g4 ∧ w.heap.size ≤ g6) (hne : g4 ≠ g6) (hb4 : Below w3.heap.size w3 w4) (hM : Blk w4 gm 4 (m.map Value.bool).toArray) (hgm : w3.heap.size ≤ gm) :
  ∃ w5, w4.alloc (.cells #[.slice (some ⟨gm, 0, none⟩) m.length m.length] 50) = w5 ∧ SbM w w5 g2 g4 g6 cs sn0 sn0 (.slice (some ⟨w4.heap.size, 0, none⟩) 1 1) [m] [] [] [.slice (some ⟨gm, 0, none⟩) m.length m.length] [] (fun _ => True) := by
 obtain ⟨w5, h5, hb5, hB5, -⟩ := box_blk w4 #[.slice (some ⟨gm, 0, none⟩) m.length m.length] 50
 have s3 := hb3.size
 have s4 := hb4.size
 have hb35 : Below w3.heap.size w3 w5 := hb4.trans (hb5.mono s4)
 refine ⟨w5, h5, hb3.trans (hb35.mono s3), h2.below hb35, h4.below hb35, h6.below hb35, ?_, .cons ⟨gm, rfl, by omega, hM.below hb5, by simp [Value.ownBlock]⟩ .nil, own_nil, own_nil, RowsI.nil, hne, hge⟩
 exact own_of_blk (base := w.heap.size) (n := 1) hB5 (by omega) rfl (by omega)
theorem Disc.of_exp {a : WA} {all : List (List Bool)} {i : Nat} (h : Exp a.L a.nf.after a.nf.st i all) (hi : ¬ i < all.length) : Disc a.L a.nf.after a.nf.st all := by
 have := h.inv.le
 obtain rfl : i = all.length := by omega
 exact h
theorem refsubsets_any {w : World} {v : Value} {a : WA} {k : Nat} (h : IsWA w w.heap.size v a) (hin : a.In) (hS : 0 ≤ a.states ∧ a.states ≤ 200000) (hLl : 0 ≤ a.letters ∧ a.letters ≤ 8) (hk : k ≤ 50000) :
  Calls Tryz.prog 60 #[v, .int .i64 (k : Int)] w (Ret fun r w' => SubRetR w a k r w') := by
 have hWH := hide h
 obtain ⟨A1, c1, A2, c2, A3, c3, rfl, h1, h2, h3, h4⟩ := h
 have hLe : a.letters = (a.L : Int) := by unfold WA.L; omega
 have hL8 : a.L ≤ 8 := by unfold WA.L; omega
 have hSe : a.states = (a.n : Int) := by unfold WA.n; omega
 have hn9 : a.n ≤ 200000 := by unfold WA.n; omega
 rw [hLe] at hWH ⊢
 obtain ⟨w1, w2, w3, hw1, hw2, hw3, hb3, hB2, hB4, hB6, l1, l2, l3⟩ := sb_mem w #[.int .i64 (a.L : Int), .int .i64 a.states, .slice A1 a.start.length c1, .slice A2 a.accept.length c2, .slice A3 a.edges.length c3]
 have b03 := hide hb3
 have hB2H := hide hB2
 have hB4H := hide hB4
 have hB6H := hide hB6
 have f2 := hB2.cell
 have hmk := refMarks_any (c := c1) (n := a.n) (h1.keep (w' := w3) (fun p hp => hb3.cell hp) hb3.size) (Nat.le_refl _) hn9 (by rw [← hSe]; exact hin.start)
 rw [← hSe] at hmk
 have hinH := hide hin
 have hSH := hide hS
 have h2H := hide h2
 have hL8H := hide hL8
 have hSeH := hide hSe
 clear hb3 hB2 hB4 hB6 h1 h2 h3 h4 hin hLe hLl hS hSe hL8
 go_enter Tryz.func60, Tryz.ntmps60
 go_wp2_with fail
 refine Calls.ret hmk ?_
 rintro u w4 ⟨hb4, hM4, hfr⟩
 obtain ⟨gm, hgm, rfl, hBm⟩ := hM4
 have hgm2 := hfr gm rfl
 obtain ⟨w5, hw5, hI0⟩ := sb_start b03.out hB2H.out hB4H.out hB6H.out ⟨by omega, by omega, by omega⟩ (by omega) hb4 hBm hgm2
 have hI0H := hide hI0
 have hstE : marksM a.n a.start = a.nf.st := by unfold NF.st; rw [a.nf_n]; rfl
 rw [hstE] at hI0H hw5 ⊢
 have hstl : Hid (a.nf.st.length = a.n) := by show _ = _; rw [a.nf.st_len, a.nf_n]
 clear hmk hb4 hfr hgm hBm hI0 f2 hstE
 go_wp2_with fail
 go_loopw [7, 8] (fun vv ii wr => ∃ (i : Nat) (all : List (List Bool)) (vN vA : Value) (us ws : List Value), ii = .int .i64 (i : Int) ∧ i ≤ k ∧ Hid (SbM w wr w.heap.size w1.heap.size w2.heap.size #[.int .i64 (a.L : Int), .int .i64 a.states, .slice A1 a.start.length c1, .slice A2 a.accept.length c2, .slice A3 a.edges.length c3] vN vA vv all (rowsG a.L a.nf.after all i) ((all.take i).map a.nf.has) us ws (fun _ => True)) ∧ Hid (Exp a.L a.nf.after a.nf.st i all) ∧ Hid (∀ x ∈ all, x.length = a.n)) (fun _ ii _ => k + 1 - (intOf ii).toNat)
 case atStart => exact ⟨0, [a.nf.st], sn0, sn0, _, _, rfl, Nat.zero_le _, hI0H, hide .start, hide fun x hx => by rw [List.mem_singleton.1 hx]; exact hstl.out⟩
 case round =>
  obtain ⟨i, all, vN, vA, us, ws, rfl, hi, hI, hE, hl⟩ := hrel
  obtain ⟨AS, cS, rfl⟩ := slice_of_own hI.out.sets
  have hcb := hI.out.b2.cell
  by_cases hlt : i < all.length
  ·by_cases hbig : k < all.length
   ·have hLg : a.nf.Large k := ⟨i, all, hE.out, hbig⟩
    have hb4r := hI.out.b4
    have hf4 := hb4r.frozen
    have hl4 := hb4r.lt
    have hc4 := hb4r.cell
    obtain ⟨wF, hwF, hBF, hKF⟩ := set2_facts hb4r sn0 sn0
    have hBFc := hBF.cell
    have hbF := hide (hI.out.below.trans (hKF.below hI.out.below.size fun b hb e => by have := hI.out.ge; omega))
    have hLgH := hide hLg
    unfold set2 at hwF
    clear hLg hb4r hBF hKF
    go_wp2_with fail
    refine bodyPost_ret (v := .tuple #[.agg #[sn0, sn0], .bool false]) (by simp [results, Tryz.results60, go_sem, hBFc]) rfl ⟨hbF.out, .inl ⟨hLgH.out, rfl⟩⟩
   ·obtain ⟨mi, hmi⟩ := get_lt hlt
    have hmiH := hide hmi
    have hal : all.length ≤ 100000 := by omega
    have hik : i + 1 ≤ k := by omega
    clear hmi
    go_wp2_with fail
    refine sb_x hI.out hWH.out hinH.out hSH.out hL8H.out hmiH.out hl.out hal ?_ ?_
    ·repeat (first | exact Reg.NoQ.body (fun _ _ h => h) (fun _ h => h) | refine Reg.NoQ.then ?_ | refine Reg.NoQ.inBlock ?_)
    ·iterate 43 (intro _)
     intro w9 vS' vR all' us' hI9 hR9 hk9 hl9
     have hI9H := hide hI9
     have hR9H := hide hR9
     have hk9H := hide hk9
     have hl9H := hide hl9
     have hmi' := prefix_get (show all <+: all' from by rw [hk9]; exact rowL_pre _ _ _) hmiH.out
     obtain ⟨gSS, cS', gM, rfl, -, -⟩ := hI9.at hmi'
     obtain ⟨AR, cR, rfl⟩ := slice_of_own hR9
     obtain ⟨AN, cN, rfl⟩ := slice_of_own hI9.nxt
     obtain ⟨AA, cA, rfl⟩ := slice_of_own hI9.acc
     have hpre : all <+: all' := by rw [hk9]; exact rowL_pre _ _ _
     have hpreH := hide hpre
     have htl : (rowsG a.L a.nf.after all i).length = i := rowsG_len (by omega)
     have hasl : ((all.take i).map a.nf.has).length = i := by simp; omega
     have hc6 := hI9.b6.cell
     have hnx := hI9.nxt
     rw [htl, hasl] at hc6
     rw [htl] at hnx
     have hsz := hI9.below.size
     have hi4 : i + 1 ≤ 4000000 := by omega
     have htlH := hide htl
     have haslH := hide hasl
     have hmi'H := hide hmi'
     have hmlen := hide (hl9 mi (List.mem_of_getElem? hmi'))
     obtain ⟨n', hn'⟩ : ∃ n', n' = all'.length := ⟨_, rfl⟩
     have hnH := hide hn'
     have hil' : i < n' := by rw [hn']; exact lt_of_get hmi'
     rw [← hn']
     clear hI9 hR9 hk9 hl9 hpre htl hasl hmi' hn' hlt hbig
     go_wp2_with (
      at_builtin
      refine wpList_app_new (w := w9) row22 rfl _ _ rfl w.heap.size (.slice AN i cN) i _ rfl hnx [.slice AR a.L cR] 1 rfl rfl (by simp [Value.oneCell']) hi4 hsz ?_
      intro g7 cap7 w7 hown7 hk7 hmv7 hg7
      have hk7' : Kept w9 w7 (fun b => (Value.slice AN (rowsG a.L a.nf.after all i).length cN).ownBlock = some b) := (by rw [htlH.out]; exact hk7)
      have hb67 := hI9H.out.b6.kept hk7' (own_blk_ne hI9H.out.nxt hI9H.out.b6 (by decide))
      have hc67 := hb67.cell
      have hf67 := hb67.frozen 0
      have hl67 := hb67.lt
      rw [haslH.out] at hc67
      have hrr : w9.ownsRow w.heap.size 3 1 (.slice AR a.L cR) (rowQ a.nf.after all' mi a.L).length ((natL (rowQ a.nf.after all' mi a.L)).map (Value.int .i64)) := (by rw [rowQ_len]; exact hR9H.out)
      have hI7 := hI9H.out.addR (row := rowQ a.nf.after all' mi a.L) (vN' := .slice (some ⟨g7, 0, none⟩) (i + 1) cap7) hrr hk7' (by rw [htlH.out]; exact hown7)
      obtain ⟨wX, hwX⟩ : ∃ wX, w7.setCell ⟨w2.heap.size, 0, none⟩ (.slice (some ⟨g7, 0, none⟩) (i + 1) cap7) = wX := ⟨_, rfl⟩
      rw [hwX] at hI7
      have hIX := hide hI7
      have hcX := hI7.b2.cell
      have hc6X := hI7.b6.cell
      rw [haslH.out] at hc6X
      obtain ⟨gS2, cS2, gM2, q1, q2, q3⟩ := hI7.at hmi'H.out
      injection q1 with q11 q12 q13
      injection q11 with q11
      injection q11 with q11
      subst q11 q13
      have hMX := hide q3
      clear hown7 hk7 hk7' hmv7 hb67 hI7 hrr q12 q3)
     have h0X := hIX.out.below.trans ((drewB wX).mono hIX.out.below.size)
     have hme := meets_any (c := c2) (show Marks wX.drew wX.drew.heap.size (.slice (some ⟨gM2, 0, none⟩) mi.length mi.length) mi from hMX.out.keep (drewB wX) (Nat.le_refl _)) (h2H.out.keep (w' := wX.drew) (fun p hp => h0X.cell hp) h0X.size) (by
      rw [hmlen.out, ← hSeH.out]
      exact hinH.out.accept)
     rw [WA.meets_has hinH.out] at hme
     obtain ⟨bh, hbh⟩ : ∃ bh, bh = a.nf.has mi := ⟨_, rfl⟩
     rw [← hbh] at hme
     have hbhH := hide hbh
     have haccX := hIX.out.acc
     rw [haslH.out] at haccX
     have hszX := hIX.out.below.size
     clear hbh h0X
     refine Reg.cC [0, 1, 0, 0, 12, 28, 0, 64, 252, 508, 1023, 2047, 4095] [0, 1, 2, 3, 4, 5, 6, 7, 8, 9, 10, 11, 12] ?_
     refine Reg.rest_walk' [0, 1, 2, 3, 4, 5, 6, 7] [8, 9, 10, 11, 12] rfl (by kernel_rfl) ?_
     intro Qf hQf
     go_wp2_with fail
     first | refine hQf _ _ ?_ | skip
     try clear hQf
     refine Reg.rest_act' 8 [9, 10, 11, 12] [1] rfl (by kernel_rfl) ?_
     intro Qf hQf
     simp only [gT, gS, gZ]
     go_wp2_with fail
     refine hme.mono ?_
     rintro r w8 ⟨rfl, rfl⟩
     clear hme
     go_wp2_with fail
     first | refine hQf _ _ ⟨Reg.same_below (Below.refl _ _) [1] rfl, ?_⟩ | refine ⟨Reg.same_below (Below.refl _ _) [1] rfl, ?_⟩
     try clear hQf
     refine Reg.rest_walk' [9] [10, 11, 12] rfl (by kernel_rfl) ?_
     intro Qf hQf
     go_wp2_with fail
     first | refine hQf _ _ ?_ | skip
     try clear hQf
     refine Reg.rest_act' 10 [11, 12] [] rfl (by kernel_rfl) ?_
     intro Qf hQf
     simp only [gT, gS, gZ]
     refine wpList_app_new (w := wX.drew) row4 rfl _ _ rfl w.heap.size (.slice AA i cA) i _ rfl haccX [.bool bh] 1 rfl rfl (by simp [Value.oneCell']) hi4 hszX ?_
     intro gA capA wA hownA hkA hmvA hgA
     have hkA' : Kept wX wA (fun b => (Value.slice AA ((all.take i).map a.nf.has).length cA).ownBlock = some b) := by
      rw [haslH.out]
      exact ⟨hkA.os, hkA.tape, hkA.output, hkA.size, hkA.block⟩
     have hb6A := hIX.out.b6.kept hkA' (own_blk_ne hIX.out.acc hIX.out.b6 (by decide))
     have hfA := hb6A.frozen 1
     have hlA := hb6A.lt
     have hcA := hb6A.cell
     have hIA := hide (hIX.out.addA (b := bh) (vA' := .slice (some ⟨gA, 0, none⟩) (i + 1) capA) hkA' (by rw [haslH.out]; exact hownA) (by rw [haslH.out]; exact hmvA))
     refine hQf _ _ ⟨Reg.nm, ?_⟩
     clear hQf hownA hkA hkA' hmvA hb6A haccX
     refine Reg.rest_walk' [11, 12] [] rfl (by kernel_rfl) ?_
     intro Qf hQf
     go_wp2_with fail
     first | refine hQf _ _ ?_ | skip
     try clear hQf
     refine Reg.rest_end ?_
     go_wp2_with fail
     refine ⟨⟨i + 1, all', .slice (some ⟨g7, 0, none⟩) (i + 1) cap7, .slice (some ⟨gA, 0, none⟩) (i + 1) capA, us', ws ++ [.slice AR a.L cR], by go_num, hik, ?_, ?_, hl9H⟩, by simp [intOf]; omega⟩
     ·have h1 := hIA.out
      have e1 : rowsG a.L a.nf.after all i ++ [rowQ a.nf.after all' mi a.L] = rowsG a.L a.nf.after all' (i + 1) := by
       rw [rowsG_succ hmi'H.out, rowsG_ext hE.out hpreH.out]
       rfl
      have e2 : (all.take i).map a.nf.has ++ [bh] = (all'.take (i + 1)).map a.nf.has := by
       rw [take_snoc hmi'H.out, List.map_append, hbhH.out]
       congr 2
       obtain ⟨u, hu⟩ := hpreH.out
       rw [← hu, List.take_append_of_le_length (by have := lt_of_get hmiH.out; omega)]
      rw [e1, e2] at h1
      rw [hnH.out]
      exact h1
     ·show Exp _ _ _ _ _
      rw [hk9H.out]
      exact .row hE.out hmiH.out
  ·have hD := hide (Disc.of_exp hE.out hlt)
   have hle := hE.out.inv.le
   obtain rfl : i = all.length := by omega
   obtain ⟨AN, cN, rfl⟩ := slice_of_own hI.out.nxt
   obtain ⟨AA, cA, rfl⟩ := slice_of_own hI.out.acc
   have htl : (rowsG a.L a.nf.after all all.length).length = all.length := rowsG_len (Nat.le_refl _)
   have hasl : ((all.take all.length).map a.nf.has).length = all.length := by simp
   have hb4r := hI.out.b4
   have hf4 := hb4r.frozen
   have hl4 := hb4r.lt
   have hc4 := hb4r.cell
   have hc6 := hI.out.b6.cell
   obtain ⟨wF, hwF, hBF, hKF⟩ := set2_facts hb4r (.slice AN (rowsG a.L a.nf.after all all.length).length cN) (.slice AA ((all.take all.length).map a.nf.has).length cA)
   have hBFc := hBF.cell
   have hbF := hide (hI.out.below.trans (hKF.below hI.out.below.size fun b hb e => by have := hI.out.ge; omega))
   have hfin := hI.out.fin (wF := wF) (hKF.mono fun _ _ e => .inl e)
   rw [List.take_length] at hfin hasl hwF hBFc hc6
   rw [htl, hasl] at hfin hwF hBFc hc6
   have hfinH := hide hfin
   have hk0 : ¬ (k : Int) < 0 := by omega
   unfold set2 at hwF
   clear hb4r hBF hKF hfin htl hasl hI hE
   go_wp2_with fail
   refine bodyPost_ret (v := .tuple #[.agg #[.slice AN all.length cN, .slice AA all.length cA], .bool true]) (by simp [results, Tryz.results60, go_sem, hBFc]) rfl ⟨hbF.out, .inr ⟨all, _, hD.out, hi, hfinH.out, rfl⟩⟩
end Go.Proofs.YtakpmdmjbgipiaaGreatDoor
