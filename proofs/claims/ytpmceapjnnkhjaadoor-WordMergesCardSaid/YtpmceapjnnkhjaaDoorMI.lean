/-
  Part MI of a proof.
-/
import Derived.Test.YtpmceapjnnkhjaaDoorPA
import Derived.Test.YtpmceapjnnkhjaaDoorMH
set_option maxHeartbeats 16000000
set_option maxRecDepth 100000
set_option linter.unusedVariables false
set_option linter.unusedSimpArgs false
namespace Go.Proofs.YtpmceapjnnkhjaaDoor
open Go.RowKit
set_option maxHeartbeats 16000000
set_option maxRecDepth 100000
theorem can_mem (w3 : World) (L : Nat) : ∃ w4 w5 w6 w7, w3.alloc (.cells #[.int .i64 0] 3) = w4 ∧ w4.alloc (.cells zero25 25) = w5 ∧ set5 w5 w4.heap.size (.int .i64 (L : Int)) (.int .i64 0) (.slice (some ⟨w3.heap.size, 0, none⟩) 1 1) sn0 sn0 = w6 ∧ w6.alloc (.cells #[.int .i64 0] 3) = w7 ∧
  Blk w5 w4.heap.size 25 zero25 ∧ CnM w3 w7 w4.heap.size w3.heap.size L (.slice (some ⟨w6.heap.size, 0, none⟩) 1 1) sn0 sn0 [0] [] [] := by
 obtain ⟨w4, h4, hb4, hB4, hk4⟩ := box_blk w3 #[.int .i64 0] 3
 obtain ⟨w5, h5, hb5, hB5, hk5⟩ := box_blk w4 zero25 25
 obtain ⟨w6, h6, hB6, hK6⟩ := set5_facts hB5 (.int .i64 (L : Int)) (.int .i64 0) (.slice (some ⟨w3.heap.size, 0, none⟩) 1 1) sn0 sn0
 obtain ⟨w7, h7, hb7, hB7, hk7⟩ := box_blk w6 #[.int .i64 0] 3
 have l4 := hB4.lt
 have l5 := hB5.lt
 have s5 := hb5.size
 have s6 := hK6.size
 have s7 := hb7.size
 have b46 : Below w4.heap.size w4 w6 := hb5.trans (hK6.below s5 fun b hb e => by omega)
 have b36 : Below w3.heap.size w3 w6 := hb4.trans (b46.mono (by omega))
 refine ⟨w4, w5, w6, w7, h4, h5, h6, h7, hB5, ⟨b36.trans (hb7.mono (by omega)), hB6.below hb7, (hB4.below b46).below hb7, ?_, own_nil, own_nil, by simp [Value.ownBlock], ?_, fun g _ => by simp [Value.ownBlock], ⟨by omega, Nat.le_refl _⟩⟩⟩
 ·exact own_of_blk (base := w3.heap.size) (n := 1) hB7 (by omega) rfl (by omega)
 ·intro e
  have : w6.heap.size = w3.heap.size := by simpa [Value.ownBlock] using e
  omega
theorem ClsR.toWn {L n : Nat} {nx : Nat → Nat → Nat} {acc : Nat → Bool} {cl : List Nat} (h : ClsR L n nx acc (-1) cl) : ClsW L n nx acc cl := h.toW
def CanonRet (w : World) (L n : Nat) (t : List (List Nat)) (ac : List Bool) (r : Value) (w' : World) : Prop :=
 Below w.heap.size w w' ∧ ∃ t' ac', CanT L t' ac' (langT t ac) ∧ ac'.length ≤ n ∧ ∀ w'', Kept w' w'' (fun k => k < w.heap.size) → IsWA w'' w''.heap.size r (plainW L t' ac')
theorem refcanon_any {w : World} {L n : Nat} {vN vA : Value} {t : List (List Nat)} {ac : List Bool} (hT : TabF w L n vN vA t ac) (hn : n ≤ 200000) (hL : L ≤ 8) :
    Calls Tryd.prog 70 #[.agg #[vN, vA], .int .i64 (L : Int)] w (Ret fun r w' => CanonRet w L n t ac r w') := by
  have hTH := hide hT
  obtain ⟨bN, oN, cN, rfl, -⟩ := hT.at
  obtain ⟨bA, oA, cA, rfl, hbA, hmk⟩ := hT.mark
  have hn1 : 1 ≤ n := by have := hT.ok.pos; have := hT.n; omega
  have hacn := hide hT.n
  obtain ⟨w1, hw1, hb1, hB1, hk1⟩ := box_blk w #[.slice (some ⟨bN, oN, none⟩) n cN, .slice (some ⟨bA, oA, none⟩) n cA] 95
  obtain ⟨w2, hw2, hb2, hB2, hk2⟩ := box_blk w1 zero25 25
  have s1 := hb1.size
  have s2 := hb2.size
  have l1 := hB1.lt
  have l2 := hB2.lt
  have b02 := hide (hb1.trans (hb2.mono s1))
  have hBt2 := hide (hB1.below hb2)
  have hBr2 := hide hB2
  have hcls := refclasses_any (d := -1) (hTH.out.below b02.out) hn hL
  have hmkH := hide hmk
  have f1 := hBt2.out.cell
  clear hT hmk hb1 hB1 hk1 hb2 hB2 hk2
  go_enter Tryd.func70, Tryd.ntmps70
  go_wp2_with fail
  refine Calls.ret hcls ?_
  rintro r w3 ⟨hb3, gc, cl, rfl, hgc, hBc, hR⟩
  have b03 := hide (b02.out.trans (hb3.mono b02.out.size))
  have hBt3 := hide (hBt2.out.below hb3)
  have hBr3 := hide (hBr2.out.below hb3)
  have hXH := hide (show CnX w3 w.heap.size gc L n (.slice (some ⟨bN, oN, none⟩) n cN) (.slice (some ⟨bA, oA, none⟩) n cA) t ac cl from ⟨hTH.out.below b03.out, hBt3.out, NumsAt.of_blk hBc hR.len, hR.toW⟩)
  have s3 := b03.out.size
  have l3 := hBr3.out.lt
  have l3c := hBc.lt
  clear hcls hb3 hBc hR f1
  obtain ⟨w4, w5, w6, w7, hw4, hw5, hw6, hw7, hB5, hM⟩ := can_mem w3 L
  have hMH := hide hM
  have f5 := hB5.frozen
  have g5 := hB5.lt
  have k5 := hB5.cell
  unfold set5 at hw6
  clear hM hB5
  go_wp2_with fail
  go_loopw [7, 8] (fun vv ii wr => ∃ (i : Nat) (st : List Nat) (vC vE : Value), ii = .int .i64 (i : Int) ∧ i ≤ n ∧ Hid (CnM w3 wr w4.heap.size w3.heap.size L vv vC vE st (accI (st.map (dac ac)) i) (edgE L (rowsG L (clsNx (dnx t) cl) (kOf cl st) i) i)) ∧ Hid (Exp L (clsNx (dnx t) cl) (cl.getD 0 0) i (kOf cl st)) ∧ Hid (∀ s ∈ st, s < n)) (fun _ ii _ => n - (intOf ii).toNat)
  case atStart => exact ⟨0, [0], sn0, sn0, rfl, Nat.zero_le _, hMH, hide .start, hide fun s hs => by rw [List.mem_singleton.1 hs]; omega⟩
  case round =>
    obtain ⟨i, st, vC, vE, rfl, hi, hI, hE, hl⟩ := hrel
    have hsl := hXH.out.st_len hE.out.inv.nodup hl.out
    obtain ⟨Ao, co, rfl⟩ := slice_of_own hI.out.ord
    by_cases hlt : i < st.length
    · obtain ⟨q, hq⟩ := get_lt hlt
      have hqn := hl.out q (List.mem_of_getElem? hq)
      obtain ⟨gf, cf', hv, hcq⟩ := own_get hI.out.ord (map_get (f := Value.int .i64) (map_get (f := fun x : Nat => (x : Int)) hq))
      injection hv with hv hv2 hv3
      subst hv hv3
      have hca := (b03.out.cell (p := ⟨bA, oA + q, none⟩) hbA).trans (hmkH.out q hqn)
      have hcb := (hI.out.below.cell (p := ⟨bA, oA + q, none⟩) (by have := b03.out.size; show bA < _; omega)).trans hca
      obtain ⟨b, hb⟩ : ∃ b, dac ac q = b := ⟨_, rfl⟩
      rw [hb] at hcb
      have hsu := hide (accI_succ (ac := st.map (dac ac)) (q := i) (b := b) (by rw [← hb]; exact map_get (f := dac ac) hq))
      have hct := (hBt3.out.below hI.out.below).cell
      have hqH := hide hq
      obtain ⟨m, hm⟩ : ∃ m, m = st.length := ⟨_, rfl⟩
      rw [← hm] at hsl hlt ⊢
      have hmH := hide hm
      obtain ⟨AC, cC, rfl⟩ := slice_of_own hI.out.acc
      have hla := accI_len (st.map (dac ac)) i
      have hle := edgE_len L (rowsG L (clsNx (dnx t) cl) (kOf cl st) i) i
      have hle9 : i * L ≤ 200000 * 8 := Nat.mul_le_mul (by omega) hL
      have hes : Hid ((edgE L (rowsG L (clsNx (dnx t) cl) (kOf cl st) i) i).length ≤ 2000000) := by show _ ≤ _; omega
      have hId := hide (hI.out.keep (drewB wr))
      have hn9 : i ≤ 200000 := by omega
      obtain ⟨la, hlae⟩ : ∃ la, la = (accI (st.map (dac ac)) i).length := ⟨_, rfl⟩
      have hacc := hId.out.acc
      have hc6 := hId.out.b6.cell
      rw [← hlae] at hacc hla hc6
      have hsz := hId.out.below.size
      have hlaH := hide hlae
      have hstep := hide (fun (w9 : World) (vC' vO' vE' : Value) (st' : List Nat) (hM9 : CnM w3 w9 w4.heap.size w3.heap.size L vO' vC' vE' st' (accI (st.map (dac ac)) (i + 1)) (edgE L (rowsG L (clsNx (dnx t) cl) (kOf cl st) i) i ++ rowP (clsNx (dnx t) cl) (kOf cl st') (cl.getD q 0) i L)) (hk9 : kOf cl st' = rowL (clsNx (dnx t) cl) (cl.getD q 0) (kOf cl st) L) (hp9 : st <+: st') => show CnM w3 w9 w4.heap.size w3.heap.size L vO' vC' vE' st' (accI (st'.map (dac ac)) (i + 1)) (edgE L (rowsG L (clsNx (dnx t) cl) (kOf cl st') (i + 1)) (i + 1)) ∧ Exp L (clsNx (dnx t) cl) (cl.getD 0 0) (i + 1) (kOf cl st') from by
        refine ⟨?_, ?_⟩
        · rw [accI_ext (ac := st.map (dac ac)) (bc := st'.map (dac ac)) (by
            obtain ⟨u, rfl⟩ := hp9
            rw [List.map_append]
            exact List.prefix_append _ _) (by rw [List.length_map]; omega), ← rowP_done hE.out (kOf_pre hp9) (kOf_get hqH.out)]
          exact hM9
        · rw [hk9]
          exact .row hE.out (kOf_get hqH.out))
      clear hca hb hq hm hv2 hle hle9 hlae
      cases b
      all_goals
        go_wp2_with fail
        refine Reg.cP [0, 1, 0, 0, 12, 28, 63, 127] ?_
        first
        | (have hsu2 : accI (st.map (dac ac)) (i + 1) = accI (st.map (dac ac)) i := (by rw [hsu.out]; rfl)
           have hJ1 := hId.out
           rw [← hlaH.out, ← hsu2] at hJ1
           have hJ := hide hJ1
           clear hJ1 hsu2
           go_wp2_with fail)
        | (go_wp2_with (
            at_builtin
            refine wpList_app_new (w := wr.drew) row3 rfl _ _ rfl w3.heap.size (.slice AC la cC) la _ rfl hacc [.int .i64 (i : Int)] 1 rfl rfl (by simp [Value.oneCell']) (by omega) hsz ?_
            intro g' cap' w8 hown8 hk8 hmv8 hg8
            have hk8' : Kept wr.drew w8 (fun k => (Value.slice AC (accI (st.map (dac ac)) i).length cC).ownBlock = some k) := (by rw [← hlaH.out]; exact hk8)
            have hb68 := hId.out.b6.kept hk8' (own_blk_ne hId.out.acc hId.out.b6 (by decide))
            have hc68 := hb68.cell
            have hf68 := hb68.frozen 3
            have hl68 := hb68.lt
            have hJ1 := hId.out.addA (q := (i : Int)) (vC' := .slice (some ⟨g', 0, none⟩) (la + 1) cap') (w1 := w8) hk8' (by rw [← hlaH.out]; exact hown8) (by rw [← hlaH.out]; exact hmv8)
            obtain ⟨wX, hwX⟩ : ∃ wX, wX = w8.setCell ⟨w4.heap.size, 3, none⟩ (.slice (some ⟨g', 0, none⟩) (la + 1) cap') := ⟨_, rfl⟩
            have hsu2 : accI (st.map (dac ac)) (i + 1) = accI (st.map (dac ac)) i ++ [(i : Int)] := (by rw [hsu.out]; rfl)
            rw [← hsu2] at hJ1
            have hJ := hide hJ1
            clear hown8 hk8 hk8' hmv8 hb68 hwX hJ1 hsu2))
        rw [hmH.out]
        have hJ2 := hJ.out
        refine can_x hXH.out hn hL hJ2 hE.out hqH.out hl.out hes.out ?_ ?_
        · repeat (first | exact Reg.NoQ.body (fun _ _ h => h) (fun _ h => h) | refine Reg.NoQ.then ?_ | refine Reg.NoQ.inBlock ?_)
        · iterate 56 (intro _)
          intro w9 vO' vE' st' hM9 hk9 hp9 hl9
          have hst9 := hide (hstep.out w9 _ vO' vE' st' hM9 hk9 hp9)
          have hl9H := hide hl9
          clear hM9 hk9 hp9 hl9
          go_wp2_with fail
          exact ⟨⟨i + 1, st', _, vE', by go_num, by omega, hide hst9.out.1, hide hst9.out.2, hl9H⟩, by simp [intOf]; omega⟩
    · have hle0 := hE.out.inv.le
      have hkl : (kOf cl st).length = st.length := by simp [kOf]
      obtain rfl : i = st.length := by omega
      obtain ⟨AC, cC, rfl⟩ := slice_of_own hI.out.acc
      obtain ⟨AE, cE, rfl⟩ := slice_of_own hI.out.eds
      have hla := accI_len (st.map (dac ac)) st.length
      have hle := edgE_len L (rowsG L (clsNx (dnx t) cl) (kOf cl st) st.length) st.length
      have hle9 : st.length * L ≤ 200000 * 8 := Nat.mul_le_mul (by omega) hL
      have hge := hI.out.ge
      have hb6 := hI.out.b6
      have hc6 := hb6.cell
      have hf6 := hb6.frozen 1
      have hl6 := hb6.lt
      have hB8 := hb6.set_ 1 (.int .i64 (st.length : Int))
      have hK8 := (Kept.refl wr (fun k => k = w4.heap.size)).setCell (p := ⟨w4.heap.size, 1, none⟩) (fun _ => rfl) (.int .i64 (st.length : Int))
      have hBr8 := (hBr3.out.below hI.out.below).kept hK8 (by omega)
      obtain ⟨la, hlae⟩ : ∃ la, la = (accI (st.map (dac ac)) st.length).length := ⟨_, rfl⟩
      obtain ⟨le', hlee⟩ : ∃ le', le' = (edgE L (rowsG L (clsNx (dnx t) cl) (kOf cl st) st.length) st.length).length := ⟨_, rfl⟩
      obtain ⟨w8, hw8⟩ : ∃ w8, wr.setCell ⟨w4.heap.size, 1, none⟩ (.int .i64 (st.length : Int)) = w8 := ⟨_, rfl⟩
      rw [hw8] at hB8 hK8 hBr8
      rw [← hlae, ← hlee] at hB8 hc6
      have hc8 := hB8.cell
      have hf8 := hBr8.frozen
      have hl8 := hBr8.lt
      have hcr8 := hBr8.cell
      obtain ⟨wF, hwF, hBF, hKF⟩ := set5_facts hBr8 (.int .i64 (L : Int)) (.int .i64 (st.length : Int)) (.slice (some ⟨w3.heap.size, 0, none⟩) 1 1) (.slice AC la cC) (.slice AE le' cE)
      have hBFc := hBF.cell
      have hpl : (⟨(L : Int), (st.length : Int), [0], accI (st.map (dac ac)) st.length, edgE L (rowsG L (clsNx (dnx t) cl) (kOf cl st) st.length) st.length⟩ : WA) = plainW L (rowsG L (clsNx (dnx t) cl) (kOf cl st) st.length) (st.map (dac ac)) := by
        have := plainW_all L (rowsG L (clsNx (dnx t) cl) (kOf cl st) st.length) (st.map (dac ac))
        rw [List.length_map] at this
        exact this
      have hfin := hide (fun w'' (hk : Kept wF w'' (fun k => k < w.heap.size)) => by
        have h1 := hI.out.fin (N := st.length) (((hK8.mono fun b _ e => .inl e).trans (hKF.mono fun b _ e => .inr (by omega)) fun _ _ e => e).trans hk fun b _ e => .inr (by omega)) (by omega) (by omega)
        rw [hpl, ← hlae, ← hlee] at h1
        exact h1)
      have hsW := hI.out.below.size
      have hbF := hide ((b03.out.trans (hI.out.below.mono s3)).trans ((hK8.below (by omega) fun b hb e => by omega).trans (hKF.below (by have := hK8.size; omega) fun b hb e => by omega)))
      have hCT := hide (min_canT hXH.out.tab.ok (by rw [hacn.out]; exact hXH.out.w) (st := st) (fun s hs => by rw [hacn.out]; exact hl.out s hs) (show Disc L (clsNx (dnx t) cl) (cl.getD 0 0) (st.map fun s => cl.getD s 0) from by
        unfold Disc
        rw [List.length_map]
        exact hE.out))
      have hwH := hide hwF
      have hw8H := hide hw8
      clear hB8 hK8 hBr8 hBF hKF hwF hla hle hle9 hlae hlee hpl hI hE hb6
      go_wp2_with fail
      change bodyPost _ _ _ _ _ (set5 _ w1.heap.size (.int .i64 (L : Int)) (.int .i64 (st.length : Int)) (.slice (some ⟨w3.heap.size, 0, none⟩) 1 1) (.slice AC la cC) (.slice AE le' cE))
      first | rw [hwH.out] | rw [hw8H.out, hwH.out]
      refine bodyPost_ret (v := .agg #[.int .i64 (L : Int), .int .i64 (st.length : Int), .slice (some ⟨w3.heap.size, 0, none⟩) 1 1, .slice AC la cC, .slice AE le' cE]) (by simp [results, Tryd.results70, go_sem, hBFc]) rfl ⟨hbF.out, _, _, hCT.out, by rw [List.length_map]; exact hsl, hfin.out⟩
end Go.Proofs.YtpmceapjnnkhjaaDoor
