/-
  Part PF of a proof.
-/
import Derived.Test.YtakpmdmjbgipiaaGreatDoorPA
import Derived.Test.YtakpmdmjbgipiaaGreatDoorPE
set_option maxHeartbeats 16000000
set_option maxRecDepth 100000
set_option linter.unusedVariables false
set_option linter.unusedSimpArgs false
namespace Go.Proofs.YtakpmdmjbgipiaaGreatDoor
open Go.RowKit
set_option maxHeartbeats 16000000
set_option maxRecDepth 100000
theorem madeR (z : Value) (n : Nat) : madeCells #[z] (n * 1) = rangeC n fun _ => z := by rw [madeCells_one, rangeC_rep]
theorem replR (n : Nat) (z : Value) : (List.replicate n z).toArray = rangeC n fun _ => z := by rw [← repl_list, rangeC_rep]
def WA.toK (a : WA) (k s x : Nat) : List Int := ((a.edges.take k).filter fun e => decide (e.frm = (s : Int)) && decide (e.letter = (x : Int))).map (·.to)
theorem WA.toK_zero (a : WA) : a.toK 0 = fun _ _ => [] := by funext s x; simp [WA.toK]
theorem WA.toK_all (a : WA) {k : Nat} (h : a.edges.length ≤ k) : a.toK k = a.to := by funext s x; unfold WA.toK WA.to; rw [List.take_of_length_le h]
theorem WA.toK_succ (a : WA) {k f y : Nat} {to : Int} (h : a.edges[k]? = some ⟨(f : Int), (y : Int), to⟩) : a.toK (k + 1) = up2 (a.toK k) f y (a.toK k f y ++ [to]) := by
 funext s x
 unfold WA.toK
 rw [take_snoc h, List.filter_append, List.map_append]
 unfold up2
 by_cases e : s = f ∧ x = y
 ·rw [if_pos e, e.1, e.2]; simp
 ·rw [if_neg e]
  have : (decide ((f : Int) = (s : Int)) && decide ((y : Int) = (x : Int))) = false := by
   rw [Bool.and_eq_false_iff]
   rcases Classical.not_and_iff_not_or_not.1 e with e | e
   ·exact .inl (by simp; omega)
   ·exact .inr (by simp; omega)
  simp [this]
theorem WA.toK_len (a : WA) (k s x : Nat) : (a.toK k s x).length ≤ k := by
 unfold WA.toK
 rw [List.length_map]
 exact Nat.le_trans (List.length_filter_le _ _) (List.length_take_le _ _)
theorem WA.to_len (a : WA) (s x : Nat) : (a.to s x).length ≤ a.edges.length := by
 rw [← WA.toK_all a (Nat.le_refl _)]
 exact WA.toK_len a _ s x
theorem b3r_of {w0 wr : World} {g g' : Nat} {t t' : TypeId} {cs cs' : Array Value} (h : Blk w0 g t cs) (h' : Blk w0 g' t' cs') (hk : Kept w0 wr (fun k => k = g')) (hne : t ≠ t') : Blk wr g t cs := h.kept hk (h.ne_ h' hne)
theorem network_any {v : Value} {a : WA} {w : World} (h : IsWA w w.heap.size v a) (hin : a.In) (hS : 0 ≤ a.states ∧ a.states ≤ 200000) (hL : 0 ≤ a.letters ∧ a.letters ≤ 8) (he : a.edges.length ≤ 3000000) :
  Calls Tryz.prog 45 #[v] w (Ret fun r w' => IsNF w' w'.heap.size r a.nf ∧ Below w.heap.size w w') := by
 obtain ⟨A1, c1, A2, c2, A3, c3, rfl, h1, h2, h3, h4⟩ := h
 obtain ⟨n, hn⟩ := Int.eq_ofNat_of_zero_le hS.1
 obtain ⟨L, hLe⟩ := Int.eq_ofNat_of_zero_le hL.1
 have hn80 : n ≤ 200000 := by omega
 have hL8 : L ≤ 8 := by omega
 obtain ⟨w1, hw1, hb1, hB1, hk1⟩ := box_blk w #[.int .i64 (L : Int), .int .i64 (n : Int), .slice A1 a.start.length c1, .slice A2 a.accept.length c2, .slice A3 a.edges.length c3] 28
 obtain ⟨w2, hw2, hb2, hB2, hk2⟩ := box_blk w1 #[.int .i64 0, .slice none 0 0, .slice none 0 0, .slice none 0 0] 56
 have hB12 := hB1.below hb2
 have hb02 := hb1.trans (hb2.mono hb1.size)
 have haccin : ∀ x ∈ a.accept, inN n x = true := fun x hx => by have := hin.accept x hx; rwa [hn] at this
 rw [hn, hLe]
 have hnH := hide hn
 have hLH := hide hLe
 have hinH := hide hin
 clear hS hL hn hLe hin hk1 hk2
 go_enter Tryz.func45, Tryz.ntmps45
 go_wp2_with fail
 refine net_rows hn80 hB12 (h2.keep (B' := w.heap.size) (fun p hp => hb02.cell (by omega)) (Nat.le_refl _)) rfl (by have := hb02.size; omega) haccin (by repeat (first | exact Reg.NoQ.body (fun _ _ h => h) (fun _ h => h) | refine Reg.NoQ.then ?_ | refine Reg.NoQ.inBlock ?_)) ?_
 iterate 13 (intro _)
 intro w3 g3 gn gm hA
 have b3 := hA.blk _ (List.mem_cons_self)
 have bn := hA.blk _ (List.mem_cons_of_mem _ List.mem_cons_self)
 have bm := hA.blk _ (List.mem_cons_of_mem _ (List.mem_cons_of_mem _ List.mem_cons_self))
 have hb23 := hA.below
 dsimp only at b3 bn bm
 rw [replR] at bn
 have hNA : Hid (NetA w3 w3 n L 0 gn (fun _ => 0)) := by
  refine ⟨Kept.refl _ _, ?_, fun s hs => absurd hs (by omega), fun s hs => absurd hs (by omega)⟩
  rw [rangeC_congr (g := fun _ => Value.slice none 0 0) (fun s _ => by simp)]
  exact bn.1
 have hb3H := hide b3
 have hbnH := hide bn
 have hbmH := hide bm
 have hb03 := hide (hb02.trans (hb23.mono hb02.size))
 have hB13 := hide (hB12.below hb23)
 have hB23 := hide (hB2.below hb23)
 have hc3 := b3.1.cell
 clear b3 bn bm hA hb23
 go_wp2_with fail
 go_loopw [23] (fun ii wr => ∃ (i : Nat) (gi : Nat → Nat), ii = .int .i64 (i : Int) ∧ i ≤ n ∧ Hid (NetA w3 wr n L i gn gi)) (fun ii _ => n - (intOf ii).toNat)
 case atStart => exact ⟨0, _, rfl, Nat.zero_le _, hNA⟩
 case round =>
  obtain ⟨i, gi, rfl, hi, hN⟩ := hrel
  have hK := hN.out.kept
  have hb3r := b3r_of hb3H.out.1 hbnH.out.1 hK (by decide)
  have hB1r := b3r_of hB13.out hbnH.out.1 hK (by decide)
  have hcr := hb3r.cell
  have hc1r := hB1r.cell
  by_cases hlt : i < n
  ·have hkr := hide hK
   have hb3rH := hide hb3r
   clear hK hb3r hB1r
   go_wp2_with fail
   refine Reg.cC [0, 1, 0, 0, 8, 24, 63, 127] [0, 1, 2, 3, 4, 5, 6, 7] ?_
   refine Reg.rest_walk' [0, 1, 2, 3, 4] [5, 6, 7] rfl (by kernel_rfl) ?_
   intro Qf hQf
   go_wp2_with fail
   first | refine hQf _ _ ?_ | skip
   try clear hQf
   refine Reg.rest_act' 5 [6, 7] [1] rfl (by kernel_rfl) ?_
   intro Qf hQf
   simp only [gT, gS, gZ]
   refine wpList_make Tryz.underlying49 info22 (by omega) (by omega) L (by omega) rfl _ _ rfl rfl rfl ?_
   intro gr w5 hb5 hBd5 hgr5
   first | refine hQf _ _ ⟨Reg.same_below hBd5 _ rfl, ?_⟩ | refine ⟨Reg.same_below hBd5 _ rfl, ?_⟩
   try clear hQf
   have hBd6 : Below wr.heap.size wr w5 := (drewB wr).trans hBd5
   rw [show (Value.slice none 0 0).cells = #[Value.slice none 0 0] from rfl, madeR] at hb5
   have hst := hide (hN.out.step hlt hBd6 hb5 hgr5)
   have htop := (hN.out.top.below hBd6)
   have hfr := htop.frozen i
   have hct : w5.cell? ⟨gn, i, none⟩ = some (.slice none 0 0) := by rw [htop.cell, rangeC_get _ hlt, if_neg (by omega)]
   have hlt5 := htop.lt
   clear htop
   refine Reg.rest_walk' [6, 7] [] rfl (by kernel_rfl) ?_
   intro Qf hQf
   go_wp2_with fail
   first | refine hQf _ _ ?_ | skip
   try clear hQf
   refine Reg.rest_end ?_
   go_wp2_with fail
   exact ⟨⟨i + 1, up1 gi i gr, by go_num, by omega, hst⟩, by simp [intOf]; omega⟩
  ·have hni : i = n := by omega
   subst hni
   have hNS := hide hN.out.done
   clear hN
   obtain ⟨w4, hw4⟩ : ∃ w4 : World, w4 = wr := ⟨_, rfl⟩
   subst hw4
   go_wp2_with fail
   go_loopw [37] (fun ii wr => ∃ (k : Nat) (u : Nat → Nat → Value), ii = .int .i64 (k : Int) ∧ k ≤ a.edges.length ∧ Hid (NetS w3 wr i L gn gi u (a.toK k))) (fun ii _ => a.edges.length - (intOf ii).toNat)
   case atStart => exact ⟨0, _, rfl, Nat.zero_le _, by rw [a.toK_zero]; exact hNS⟩
   case round =>
    obtain ⟨k, u, rfl, hk, hN⟩ := hrel
    have hK2 := hN.out.kept
    have hb3r2 := b3r_of hb3H.out.1 hbnH.out.1 hK2 (by decide)
    have hB1r2 := b3r_of hB13.out hbnH.out.1 hK2 (by decide)
    have hcr2 := hb3r2.cell
    have hc1r2 := hB1r2.cell
    have hb0r : Below w.heap.size w wr := hb03.out.trans (hK2.below (by have := hb03.out.size; omega) fun b hb e => by have := hbnH.out.2; have := hb02.size; omega)
    by_cases hlk : k < a.edges.length
    ·obtain ⟨bl, off, ⟨f0, y0, to⟩, rfl, hbk, hxk, hc⟩ := h3.at hlk
     have hcc := fun j hj => (hb0r.cell (by exact hbk)).trans (hc j hj)
     have e0 := hcc 0 (by omega)
     have e1 := hcc 1 (by omega)
     have e2 := hcc 2 (by omega)
     simp only [Nat.add_zero, encE] at e0 e1 e2
     obtain ⟨i1, i2, i3⟩ := hinH.out.edge _ (List.mem_of_getElem? hxk)
     obtain ⟨f, hf0, hf⟩ := inN_nat i1
     obtain ⟨y, hy0, hy⟩ := inN_nat i2
     dsimp only at hf0 hy0 hf hy
     subst hf0 hy0
     rw [hnH.out, Int.toNat_natCast] at hf
     rw [hLH.out, Int.toNat_natCast] at hy
     have htoK := hide (WA.toK_succ a hxk)
     have hlK := hide (WA.toK_len a k f y)
     obtain ⟨w5, hw5, hb5, hB5, hk5⟩ := box_blk wr #[.int .i64 (f : Int), .int .i64 (y : Int), .int .i64 to] 65
     have hN5 := hN.out.keep hb5
     have hb35 := hb3r2.below hb5
     have hc35 := hb35.cell
     have hc65 := hB5.cell
     have hcn5 : w5.cell? ⟨gn, f, none⟩ = some (.slice (some ⟨gi f, 0, none⟩) L L) := by rw [hN5.top.cell, rangeC_get _ hf]
     have hown5 := hN5.own f hf y hy
     obtain ⟨Au, cu, hu⟩ := slice_of_own hown5
     have hcr5 : w5.cell? ⟨gi f, y, none⟩ = some (.slice Au (a.toK k f y).length cu) := by rw [(hN5.row f hf).1.cell, rangeC_get _ hy, hu]
     rw [hu] at hown5
     have hN5H := hide hN5
     have hb35H := hide hb35
     have hB5H := hide hB5
     have hcn5H := hide hcn5
     have hn5 : (a.toK k f y).length ≤ 3000000 := by have := hlK.out; omega
     obtain ⟨m, hm⟩ : ∃ m, m = (a.toK k f y).length := ⟨_, rfl⟩
     rw [← hm] at hcr5 hown5 hn5
     have hmH := hide hm
     have hs5 := hide hN5.kept.size
     have huH := hide hu
     have hk5H := hide hb5
     clear hm hc hcc hxk i1 i2 i3 hN5 hb35 hB5 hk5 hu hcr hc1r hcr2 hc1r2 hc3 hb5
     go_wp2_with fail
     refine Reg.cC [0, 1, 0, 4, 15, 31, 0, 64, 0, 256, 0, 1024, 3840, 7936, 0, 16384, 65280, 130816, 0, 262144, 786432, 2096896, 4194303, 8388607] [0, 1, 2, 3, 4, 5, 6, 7, 8, 9, 10, 11, 12, 13, 14, 15, 16, 17, 18, 19, 20, 21, 22, 23] ?_
     refine Reg.rest_walk' [0, 1, 2, 3, 4, 5, 6, 7, 8, 9, 10, 11, 12, 13, 14, 15, 16, 17, 18, 19, 20] [21, 22, 23] rfl (by kernel_rfl) ?_
     intro Qf hQf
     go_wp2_with fail
     first | refine hQf _ _ ?_ | skip
     try clear hQf
     refine Reg.rest_act' 21 [22, 23] [1, 3, 5, 7] rfl (by kernel_rfl) ?_
     intro Qf hQf
     simp only [gT, gS, gZ]
     refine wpList_app_new (w := w5.drew) row3 rfl _ _ rfl w3.heap.size (.slice Au m cu) m _ rfl hown5 [.int .i64 to] 1 rfl rfl (by simp [Value.oneCell']) (by omega) hs5.out ?_
     intro g cap w6 hown6 hk6 hmv6 hg6
     have hk6' : Kept w5 w6 (fun k => (Value.slice Au m cu).ownBlock = some k) := ⟨hk6.os, hk6.tape, hk6.output, hk6.size, hk6.block⟩
     have hmv6' : Moved w5 (.slice Au m cu) (.slice (some ⟨g, 0, none⟩) (m + 1) cap) := hmv6
     have hst := hide (show NetS w3 (w6.setCell ⟨gi f, y, none⟩ (.slice (some ⟨g, 0, none⟩) (m + 1) cap)) i L gn gi (up2 u f y (.slice (some ⟨g, 0, none⟩) (m + 1) cap)) (a.toK (k + 1)) from by
      rw [htoK.out]
      refine hN5H.out.step hf hy ?_ ?_ ?_
      ·rw [huH.out, ← hmH.out]; exact hk6'
      ·rw [← hmH.out]; exact hown6
      ·rw [huH.out, ← hmH.out]; exact hmv6')
     have q3 := (hb35H.out.kept hk6' (own_blk_ne hown5 hb35H.out (by decide))).cell
     have q6 := (hB5H.out.kept hk6' (own_blk_ne hown5 hB5H.out (by decide))).cell
     have qn : w6.cell? ⟨gn, f, none⟩ = some (.slice (some ⟨gi f, 0, none⟩) L L) := (hk6'.cell hN5H.out.top.lt (own_blk_ne hown5 hN5H.out.top (by decide))).trans hcn5H.out
     have r3 := ((hb35H.out.kept ((Kept.refl w5 (fun _ => False)).alloc (.cells #[.int .i64 to] 3)).drew id)).cell
     have r6 := ((hB5H.out.kept ((Kept.refl w5 (fun _ => False)).alloc (.cells #[.int .i64 to] 3)).drew id)).cell
     have rn : ((w5.alloc (.cells #[.int .i64 to] 3)).drew).cell? ⟨gn, f, none⟩ = some (.slice (some ⟨gi f, 0, none⟩) L L) := (((Kept.refl w5 (fun _ => False)).alloc (.cells #[.int .i64 to] 3)).drew.cell hN5H.out.top.lt id).trans hcn5H.out
     have hrow6 := (hN5H.out.row f hf).1.kept hk6' (own_blk_ne hown5 (hN5H.out.row f hf).1 (by decide))
     have hfr6 := hrow6.frozen y
     have hcr6 : w6.cell? ⟨gi f, y, none⟩ = some (u f y) := by rw [hrow6.cell, rangeC_get _ hy]
     have hlr6 := hrow6.lt
     refine hQf _ _ ⟨?_, ?_⟩
     ·intro z hz q hq
      simp only [List.mem_cons, List.not_mem_nil, or_false] at hz
      rcases hz with rfl | rfl | rfl | rfl
      ·injection hq with hq
       subst hq
       exact Reg.same_load1 rfl rfl (r3 1) (q3 1) Tryz.underlying54 rfl
      ·injection hq with hq
       subst hq
       exact Reg.same_load1 rfl rfl (r6 0) (q6 0) Tryz.underlying3 rfl
      ·injection hq with hq
       subst hq
       exact Reg.same_load1 rfl rfl rn qn Tryz.underlying49 rfl
      ·injection hq with hq
       subst hq
       exact Reg.same_load1 rfl rfl (r6 1) (q6 1) Tryz.underlying3 rfl
     ·clear hQf q3 q6 qn r3 r6 rn hrow6 hown6 hk6 hk6' hmv6 hmv6' hc35 hc65 hcn5 hcr5
      refine Reg.rest_walk' [22, 23] [] rfl (by kernel_rfl) ?_
      intro Qf hQf
      go_wp2_with fail
      first | refine hQf _ _ ?_ | skip
      try clear hQf
      refine Reg.rest_end ?_
      go_wp2_with fail
      exact ⟨⟨k + 1, _, by go_num, by omega, hst⟩, by simp [intOf]; omega⟩
    ·have hB2r := b3r_of hB23.out hbnH.out.1 hK2 (by decide)
     have hbmr := b3r_of hbmH.out.1 hbnH.out.1 hK2 (by decide)
     have hc2r := hB2r.cell
     have hf2r := hB2r.frozen
     have hl2r := hB2r.lt
     obtain ⟨wF, hwF, hBF, hKF⟩ := set4t_facts hB2r (.int .i64 (L : Int)) (.slice (some ⟨gn, 0, none⟩) i i) (.slice A1 a.start.length c1) (.slice (some ⟨gm, 0, none⟩) i i)
     have hres : Hid (IsNF wF wF.heap.size (.agg #[.int .i64 (L : Int), .slice (some ⟨gn, 0, none⟩) i i, .slice A1 a.start.length c1, .slice (some ⟨gm, 0, none⟩) i i]) a.nf ∧ Below w.heap.size w wF) := by
      have hbF : Below w.heap.size w wF := hb0r.trans (hKF.below hb0r.size fun b hb e => by have := hb1.size; omega)
      have hsF := hKF.size
      have han : a.n = i := by unfold WA.n; rw [hnH.out]; rfl
      have haL : a.L = L := by unfold WA.L; rw [hLH.out]; rfl
      have hNr := hN.out
      rw [a.toK_all (by omega)] at hNr
      have h2ne : ∀ g t cs, Blk wr g t cs → t ≠ 56 → g ≠ w1.heap.size := fun g t cs hB hne => hB.ne_ hB2r hne
      have hrd := net_read (B := wF.heap.size) (hNr.top.kept hKF (h2ne _ _ _ hNr.top (by decide))) (fun s hs => (hNr.row s hs).1.kept hKF (h2ne _ _ _ (hNr.row s hs).1 (by decide))) (fun s hs x hx => own_ty hKF (hNr.own s hs x hx) (fun g cs e hB => by subst e; exact hB.ne_ hB2r (by decide) rfl)) (Nat.le_refl _) (by omega) (by omega) (fun s hs x hx => by have := a.to_len s x; omega)
      have hnf : a.nf = ⟨L, (List.range i).map fun s => (List.range L).map fun x => a.to s x, a.start, marksM i a.accept⟩ := by unfold WA.nf; rw [han, haL]
      refine ⟨?_, hbF⟩
      rw [hnf]
      have hbmF := hbmr.kept hKF (hbmr.ne_ hB2r (by decide))
      obtain ⟨A3', c3', e3, hs3⟩ := Marks.sl (B := wF.heap.size) ⟨gm, hbmF.lt, rfl, hbmF⟩ (by rw [marksM_len]; omega)
      rw [marksM_len] at e3
      injection e3 with e3 _ e4
      refine ⟨_, i, A1, c1, some ⟨gm, 0, none⟩, i, by simp [marksM_len], hrd, h1.keep (fun p hp => hbF.cell hp) hbF.size, ?_, h4⟩
      rw [e3]
      exact hs3
     go_wp2_with fail
     change bodyPost _ _ _ _ _ (set4t wr w1.heap.size (.int .i64 (L : Int)) (.slice (some ⟨gn, 0, none⟩) i i) (.slice A1 a.start.length c1) (.slice (some ⟨gm, 0, none⟩) i i))
     rw [hwF]
     have hcF := hBF.cell
     exact bodyPost_ret (v := .agg #[.int .i64 (L : Int), .slice (some ⟨gn, 0, none⟩) i i, .slice A1 a.start.length c1, .slice (some ⟨gm, 0, none⟩) i i]) (by simp [results, Tryz.results45, go_sem, hcF]) rfl hres.out
end Go.Proofs.YtakpmdmjbgipiaaGreatDoor
