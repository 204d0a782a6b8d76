/-
  Part VL of a proof.
-/
import Derived.Test.YtpmceapjnnkhjaaDoorPA
import Derived.Test.YtpmceapjnnkhjaaDoorVE
import Derived.Test.YtpmceapjnnkhjaaDoorVD
set_option maxHeartbeats 16000000
set_option maxRecDepth 100000
set_option linter.unusedVariables false
set_option linter.unusedSimpArgs false
namespace Go.Proofs.YtpmceapjnnkhjaaDoor
open Go.RowKit
set_option maxHeartbeats 16000000
set_option maxRecDepth 100000
theorem rw_start {w wa wb : World} {gm : Nat} {cs : Array Value} {a : WA} (hba : Below w.heap.size w wa) (hB : Blk wa w.heap.size 25 cs) {g1 : Nat} {w1 w2 : World} (h1 : wa.alloc (.cells #[] 3) = w1) (h2 : w1.alloc (.cells #[.slice (some ⟨wa.heap.size, 0, none⟩) 0 0] 22) = w2) (hb : Below w2.heap.size w2 wb) (hm : Blk wb gm 4 (a.nf.st.map Value.bool).toArray) (hgm : w2.heap.size ≤ gm) :
  ∃ wc, wb.alloc (.cells #[.slice (some ⟨gm, 0, none⟩) a.nf.st.length a.nf.st.length] 70) = wc ∧ RwM w wc w.heap.size cs (.slice (some ⟨w1.heap.size, 0, none⟩) 1 1) (.slice (some ⟨wb.heap.size, 0, none⟩) 1 1) sn0 sn0 [[]] [] ([[]].map (fS a)) [] [.slice (some ⟨wa.heap.size, 0, none⟩) 0 0] [.slice (some ⟨gm, 0, none⟩) a.nf.st.length a.nf.st.length] [] [] := by
 obtain ⟨w1', e1, hb1, hB1, -⟩ := box_blk wa #[] 3
 obtain rfl : w1' = w1 := e1.symm.trans h1
 obtain ⟨w2', e2, hb2, hB2, -⟩ := box_blk w1' #[.slice (some ⟨wa.heap.size, 0, none⟩) 0 0] 22
 obtain rfl : w2' = w2 := e2.symm.trans h2
 obtain ⟨wc, e3, hbc, hBc, -⟩ := box_blk wb #[.slice (some ⟨gm, 0, none⟩) a.nf.st.length a.nf.st.length] 70
 have s0 := hba.size
 have s1 := hb1.size
 have s2 := hb2.size
 have s3 := hb.size
 have hb1c : Below w1'.heap.size w1' wc := hb2.trans ((hb.mono s2).trans (hbc.mono (by omega)))
 have hb2c : Below w2'.heap.size w2' wc := hb.trans (hbc.mono s3)
 have hbac : Below wa.heap.size wa wc := hb1.trans (hb1c.mono s1)
 have hrow : wc.ownsRow w.heap.size 3 1 (.slice (some ⟨wa.heap.size, 0, none⟩) 0 0) 0 [] := own_of_blk (cs := #[]) (n := 0) (hB1.below hb1c) (by omega) rfl (by omega)
 exact ⟨wc, e3, hba.trans (hbac.mono s0), hB.below hbac, own_of_blk (n := 1) (hB2.below hb2c) (by omega) rfl (by omega), .cons ⟨hrow, fun _ _ => trivial⟩ .nil, own_of_blk (n := 1) hBc (by omega) rfl (by omega), .cons ⟨gm, rfl, by omega, hm.below hbc⟩ .nil, own_nil, RowsI.nil, own_nil, F2.nil, fun g hg => by simp [sn0, Value.ownBlock], fun g hg => by simp [sn0, Value.ownBlock]⟩
theorem refWords_any {v : Value} {a : WA} {w : World} {len : Int} (h : IsWA w w.heap.size v a) (hL4 : a.ok = true → a.L ≤ 4) :
  Calls Tryd.prog 40 #[v, .int .i64 len] w (Ret fun r w' => WwRet w a len r w') := by
 have hWA := hide h
 obtain ⟨A1, c1, A2, c2, A3, c3, rfl, h1, h2, h3, h4⟩ := h
 obtain ⟨w1, hw1, hb1, hB1, hk1⟩ := box_blk w #[.int .i64 a.letters, .int .i64 a.states, .slice A1 a.start.length c1, .slice A2 a.accept.length c2, .slice A3 a.edges.length c3] 25
 have b01 := hide hb1
 have hBx1 := hide hB1
 have f1 := hBx1.out.cell
 have hval := refValidate_any (hWA.out.keep (w' := w1) (fun p hp => b01.out.cell hp) b01.out.size)
 have h1H := hide h1
 have h2H := hide h2
 clear hk1 hb1 hB1 h1 h2 h3 h4
 go_enter Tryd.func40, Tryd.ntmps40
 go_wp2_with fail
 refine Calls.ret hval ?_
 rintro r w2 ⟨rfl, hb2⟩
 have b02 := hide (b01.out.trans (hb2.mono b01.out.size))
 have hBx2 := hide (hBx1.out.below hb2)
 have f2 := hBx2.out.cell
 clear hval hb2 f1
 cases hok : a.ok with
 | false =>
  rw [show errno false = 1 from rfl]
  have hokH := hide hok
  clear hok
  go_wp2_with fail
  refine bodyPost_ret (v := .tuple #[sn0, .int .i64 1]) (by simp [results, Tryd.results40, go_sem, sn0]) rfl ?_
  exact ⟨b02.out, .inl ⟨.inl hokH.out, rfl⟩⟩
 | true =>
  rw [show errno true = 0 from rfl]
  have hokH := hide hok
  have hwi := within_any len 0 6 w2
  have hin := (WA.ok_iff.1 hok).2
  have hbd := (WA.ok_iff.1 hok).1
  have hLl : a.letters = (a.L : Int) := by unfold WA.L; omega
  have hSl : a.states = (a.n : Int) := by unfold WA.n; omega
  have hn9 : a.n ≤ 400 := by unfold WA.n; omega
  have hL4' := hide (hL4 hok)
  have hSH := hide (show 0 ≤ a.states ∧ a.states ≤ 200000 from ⟨by omega, by omega⟩)
  have hinH := hide hin
  have hstin := hin.start
  rw [hSl] at hstin
  have hstinH := hide hstin
  rw [hLl, hSl] at hBx2 f2 hWA
  clear hok hin hbd hLl hstin
  have hc : inC len 0 6 = (decide (0 ≤ len) && decide (len ≤ 6)) := rfl
  by_cases d : 0 ≤ len ∧ len ≤ 6
  ·rw [hc, decide_eq_true d.1, decide_eq_true d.2, show (true && true) = true from rfl] at hwi
   obtain ⟨k, rfl⟩ := Int.eq_ofNat_of_zero_le d.1
   have hk6 : k ≤ 6 := by omega
   clear hc d
   obtain ⟨w3, hw3⟩ : ∃ w3, w2.alloc (.cells #[] 3) = w3 := ⟨_, rfl⟩
   obtain ⟨w4, hw4⟩ : ∃ w4, w3.alloc (.cells #[.slice (some ⟨w2.heap.size, 0, none⟩) 0 0] 22) = w4 := ⟨_, rfl⟩
   have b24 : Below w2.heap.size w2 w4 := by
    rw [← hw4, ← hw3]
    exact ((Below.refl _ _).alloc (Nat.le_refl _) _).trans (((Below.refl _ _).alloc (Nat.le_refl _) _).mono (by simp))
   have b04 := hide (b02.out.trans (b24.mono b02.out.size))
   have hBx4 := hide (hBx2.out.below b24)
   have f4 := hBx4.out.cell
   have hmk := refMarks_any (c := c1) (n := a.n) (h1H.out.keep (w' := w4) (fun p hp => b04.out.cell hp) b04.out.size) (Nat.le_refl _) (by omega) hstinH.out
   have hw3H := hide hw3
   have hw4H := hide hw4
   clear b24
   go_wp2_with fail
   refine hwi.mono ?_
   rintro e w2' ⟨rfl, rfl⟩
   clear hwi
   go_wp2_with fail
   refine Calls.ret hmk ?_
   rintro u w5 ⟨hb5, hM5, hfr⟩
   obtain ⟨gm, hgm, rfl, hBm⟩ := hM5
   have hgm2 := hfr gm rfl
   have hstE : marksM a.n a.start = a.nf.st := by unfold NF.st; rw [a.nf_n]; rfl
   rw [hstE] at hBm ⊢
   obtain ⟨w6, hw6, hI0⟩ := rw_start (g1 := 0) b02.out hBx2.out hw3H.out hw4H.out hb5 hBm hgm2
   have hI0H := hide hI0
   have hstl : Hid (a.nf.st.length = a.n) := by show _ = _; rw [a.nf.st_len, a.nf_n]
   clear hmk hb5 hfr hgm hBm hI0 f4 f2 hgm2 hstE
   go_wp2_with fail
   go_loopw [6, 7, 8] (fun ww ss ii wr => ∃ (i n cW cS : Nat) (AW AS : Option Addr) (us ms : List Value), ii = .int .i64 (i : Int) ∧ ww = .slice AW n cW ∧ ss = .slice AS n cS ∧ i ≤ k ∧ Hid (n = (a.nf.round i).length) ∧ Hid (RwM w wr w.heap.size #[.int .i64 (a.L : Int), .int .i64 (a.n : Int), .slice A1 a.start.length c1, .slice A2 a.accept.length c2, .slice A3 a.edges.length c3] (.slice AW n cW) (.slice AS n cS) sn0 sn0 (a.nf.round i) [] ((a.nf.round i).map (fS a)) [] us ms [] [])) (fun _ _ ii _ => k - (intOf ii).toNat)
   case atStart => exact ⟨0, 1, 1, 1, _, _, _, _, rfl, rfl, rfl, Nat.zero_le _, rfl, hI0H⟩
   case round =>
    obtain ⟨i, n, cW, cS, AW, AS, us, ms, rfl, rfl, rfl, hi, hn, hI⟩ := hrel
    have hrl : (a.nf.round i).length ≤ 4096 := by
     have h1 := round_len a i
     have h2 : a.L ^ i ≤ 4 ^ 6 := Nat.le_trans (Nat.pow_le_pow_left hL4'.out i) (Nat.pow_le_pow_right (by omega) (by omega))
     omega
    have hn5 : n ≤ 4096 := by rw [hn.out]; exact hrl
    by_cases hlt : i < k
    ·clear hrl
     go_wp2_with fail
     refine rw_k (pl := i) hI.out hWA.out hinH.out hSH.out rfl (by have := hL4'.out; omega) (round_mem a i) (by omega) hn.out (by omega) ?_ ?_
     ·repeat (first | exact Reg.NoQ.body (fun _ _ h => h) (fun _ h => h) | refine Reg.NoQ.then ?_ | refine Reg.NoQ.inBlock ?_)
     ·iterate 43 (intro _)
      intro w7 vL vM ls ms2 hM7
      have hT := hM7.turn
      rw [← round_nx] at hT
      obtain ⟨AL, cL, rfl⟩ := slice_of_own hT.w
      obtain ⟨AM, cM, rfl⟩ := slice_of_own hT.s
      rw [List.length_map] at hT ⊢
      have hTH := hide hT
      clear hM7 hT
      go_wp2_with fail
      refine ⟨⟨i + 1, (a.nf.round (i + 1)).length, cL, cM, AL, AM, ls, ms2, by go_num, rfl, rfl, by omega, rfl, hTH⟩, by simp [intOf]; omega⟩
    ·obtain rfl : i = k := by omega
     clear hrl
     go_wp2_with fail
     refine rw_out (pl := i) hI.out h2H.out hinH.out hSH.out.1 rfl (round_mem a i) (by omega) hn.out (by omega) ?_ ?_
     ·repeat (first | exact Reg.NoQ.body (fun _ _ h => h) (fun _ h => h) | refine Reg.NoQ.then ?_ | refine Reg.NoQ.inBlock ?_)
     ·iterate 21 (intro _)
      intro w7 vL ls hM7
      have hM7H := hide hM7
      have hfl : ((a.nf.round i).filter a.nf.lang).length ≤ 4096 := by
       have h1 := List.length_filter_le a.nf.lang (a.nf.round i)
       rw [← hn.out] at h1
       omega
      have hflH := hide hfl
      obtain ⟨AL, cL, rfl⟩ := slice_of_own hM7.l
      clear hM7 hfl
      go_wp2_with fail
      refine bodyPost_ret (v := .tuple #[.slice AL ((a.nf.round i).filter a.nf.lang).length cL, .int .i64 0]) (by simp [results, Tryd.results40, go_sem]) rfl ?_
      have hfin := hM7H.out
      have hrd := hfin.lR.read (B := w7.heap.size) hfin.l (by have := hflH.out; omega) (Nat.le_refl _) (fun d hd => by
       obtain ⟨q, hq, rfl⟩ := List.mem_map.1 hd
       have := (round_mem a i q (List.mem_filter.1 hq).1).1
       rw [natL_len, this]
       omega)
      refine ⟨hfin.below, .inr ⟨hokH.out, by omega, by omega, _, rfl, ?_⟩⟩
      rw [Int.toNat_natCast, ← NF.round_words]
      exact hrd
  ·have hf : (decide (0 ≤ len) && decide (len ≤ 6)) = false := by
    rw [Bool.and_eq_false_iff, decide_eq_false_iff_not, decide_eq_false_iff_not]
    omega
   rw [hc, hf] at hwi
   have hd : len < 0 ∨ 6 < len := by omega
   have hdH := hide hd
   clear hc hf d hd
   go_wp2_with fail
   refine hwi.mono ?_
   rintro e w2' ⟨rfl, rfl⟩
   clear hwi
   go_wp2_with fail
   refine bodyPost_ret (v := .tuple #[sn0, .int .i64 1]) (by simp [results, Tryd.results40, go_sem, sn0]) rfl ?_
   exact ⟨b02.out, .inl ⟨.inr hdH.out, rfl⟩⟩
end Go.Proofs.YtpmceapjnnkhjaaDoor
