/-
  Part XW of a proof.
-/
import Derived.Test.YtbjdgepfhhafjaaDoorXA
import Derived.Test.YtbjdgepfhhafjaaDoorXU
import Derived.Test.YtbjdgepfhhafjaaDoorXV
set_option maxHeartbeats 16000000
set_option maxRecDepth 100000
set_option linter.unusedVariables false
set_option linter.unusedSimpArgs false
namespace Go.Proofs.YtbjdgepfhhafjaaDoor
open Go.RowKit
attribute [-go_sem] loadCellsFrom storeCells
theorem ret_eq {P : Program} {f : FuncId} {args : Array Value} {w : World} {a b : Int} {K : World → Prop} (h : Calls P f args w (Ret fun v w' => v = .int .i64 a ∧ K w')) (e : b = a) : Calls P f args w (Ret fun v w' => v = .int .i64 b ∧ K w') := by
 subst e
 exact h
theorem propValidate_any {w : World} {cs ds : List Value} {p : ProtD} {q : PropD} (h : ProtIs w w.heap.size cs p) (h' : PropIs w w.heap.size ds q) (hsm : p.Small) (hsq : q.Small) (hT : SpOK w) :
  Calls Tryd.prog 12 #[.agg cs.toArray, .agg ds.toArray] w (Ret fun v w' => v = .int .i64 (propE nameOK p q) ∧ Below w.heap.size w w') := by
 by_cases h0 : protE nameOK p = 0
 case neg => exact ret_eq (vp_a h h' hsm hsq hT (hide rfl) (by simpa using h0)) (qe_prot h0)
 cases hok : nameOK q.name with
 | false => exact ret_eq (vp_b h h' hsm hsq hT h0 hok) (qe_name h0 hok)
 | true =>
  by_cases k1 : q.kind = 1
  ·by_cases hg : q.goal.length = 0
   ·by_cases h6 : setE q.start (p.states.length : Int) = 0
    ·exact vp_h h h' hsm hsq hT h0 hok k1 hg h6
    ·exact ret_eq (vp_g h h' hsm hsq hT h0 hok k1 hg (hide rfl) (by simpa using h6)) (by rw [qe_1 h0 hok k1 hg, orE_ne h6])
   ·exact ret_eq (vp_d h h' hsm hsq hT h0 hok k1 hg) (qe_goal h0 hok k1 hg)
  ·by_cases k2 : q.kind = 2
   ·by_cases hb : q.bad.length = 0
    ·by_cases ha : q.adj.length = 0
     ·by_cases h6 : setE q.start (p.states.length : Int) = 0
      ·exact vp_j h h' hsm hsq hT h0 hok k2 hb ha h6
      ·exact ret_eq (vp_i h h' hsm hsq hT h0 hok k2 hb ha (hide rfl) (by simpa using h6)) (by rw [qe_2 h0 hok k2 hb ha, orE_ne h6])
     ·exact ret_eq (vp_f h h' hsm hsq hT h0 hok k2 hb ha) (qe_bad h0 hok k2 (.inr ha))
    ·exact ret_eq (vp_e h h' hsm hsq hT h0 hok k2 hb) (qe_bad h0 hok k2 (.inl hb))
   ·exact ret_eq (vp_c h h' hsm hsq hT h0 hok k1 k2) (qe_kind h0 hok k1 k2)
end Go.Proofs.YtbjdgepfhhafjaaDoor
namespace Go.Proofs.YtbjdgepfhhafjaaDoor
open Go.RowKit
def setB5 (w : World) (g : Nat) (b0 b1 b2 b3 b4 : Bool) : World := ((((w.setCell ⟨g, 0, none⟩ (.bool b0)).setCell ⟨g, 1, none⟩ (.bool b1)).setCell ⟨g, 2, none⟩ (.bool b2)).setCell ⟨g, 3, none⟩ (.bool b3)).setCell ⟨g, 4, none⟩ (.bool b4)
theorem storeB5 {w : World} {g : Nat} {t : TypeId} {a0 a1 a2 a3 a4 : Value} (h : Blk w g t #[a0, a1, a2, a3, a4]) (b0 b1 b2 b3 b4 : Bool) :
  (storeCells ⟨g, 0, none⟩ [.bool b0, .bool b1, .bool b2, .bool b3, .bool b4] 0).run Tryd.prog w = .ok () (setB5 w g b0 b1 b2 b3 b4) := by
 have h0 := h.cell
 have f0 := h.frozen
 unfold setB5
 simp [storeCells, go_sem, h0, f0]
theorem setB5_facts {w : World} {g : Nat} {e : TypeId} {a0 a1 a2 a3 a4 : Value} (h : Blk w g e #[a0, a1, a2, a3, a4]) (b0 b1 b2 b3 b4 : Bool) : Blk (setB5 w g b0 b1 b2 b3 b4) g e #[.bool b0, .bool b1, .bool b2, .bool b3, .bool b4] ∧ Kept w (setB5 w g b0 b1 b2 b3 b4) (fun k => k = g) :=
 ⟨((((h.set_ 0 (.bool b0)).set_ 1 (.bool b1)).set_ 2 (.bool b2)).set_ 3 (.bool b3)).set_ 4 (.bool b4),
  (((((Kept.refl w (fun k => k = g)).setCell (p := ⟨g, 0, none⟩) (fun _ => rfl) _).setCell (p := ⟨g, 1, none⟩) (fun _ => rfl) _).setCell (p := ⟨g, 2, none⟩) (fun _ => rfl) _).setCell (p := ⟨g, 3, none⟩) (fun _ => rfl) _).setCell (p := ⟨g, 4, none⟩) (fun _ => rfl) _⟩
attribute [-go_sem] loadCellsFrom storeCells
theorem RuleC.cells4 {w : World} {B : Nat} {rc : Array Value} {r : RuleD} (h : RuleC w B rc r) : ∃ A c A' c', rc[1]? = some (.int .i64 r.kind) ∧ rc[2]? = some (.int .i64 r.fr) ∧ rc[3]? = some (.int .i64 r.to) ∧ rc[8]? = some (.slice A r.ex.length c) ∧ rc[9]? = some (.slice A' r.fa.length c') := by
 obtain ⟨A1, c1, A2, c2, A3, c3, A4, c4, A5, c5, A6, c6, A7, c7, A8, c8, e, _⟩ := h.is
 refine ⟨A3, c3, A4, c4, ?_, ?_, ?_, ?_, ?_⟩ <;> (rw [← Array.getElem?_toList, e]; rfl)
theorem cl_end {w wr : World} {g : Nat} {kt : Int} {tm : Array Value} {x0 x1 x2 x3 x4 : Bool} (hB : Blk wr g 45 #[.bool false, .bool false, .bool false, .bool false, .bool false]) (hb : Below w.heap.size w wr) (hg : w.heap.size ≤ g) (h3 : x3 = (kt == 4))
  (ht2 : tm[2]?.getD undef = .pointer (some ⟨g, 0, none⟩)) (ht3 : tm[3]?.getD undef = .int .i64 0) :
  bodyPost Tryd.prog Tryd.f13 (Ret fun v w' => (∃ b0 b1 b2 b4 : Bool, v = .tuple #[.agg #[.bool b0, .bool b1, .bool b2, .bool (kt == 4), .bool b4], .int .i64 0]) ∧ Below w.heap.size w w') Exit.ret { tmps := tm, defers := [] } (setB5 wr g x0 x1 x2 x3 x4) := by
 obtain ⟨hgF, hkF⟩ := setB5_facts hB x0 x1 x2 x3 x4
 have hbF := hb.trans (hkF.below hb.size (fun b hb e => by omega))
 have hld := blk_load (n := 5) hgF rfl
 generalize setB5 wr g x0 x1 x2 x3 x4 = wF at *
 exact bodyPost_ret (v := .tuple #[.agg #[.bool x0, .bool x1, .bool x2, .bool x3, .bool x4], .int .i64 0]) (by simp [results, Tryd.results13, go_sem, hld, ht2, ht3]) rfl ⟨⟨x0, x1, x2, x4, by rw [h3]⟩, hbF⟩
theorem classify_any {w : World} {cs : List Value} {p : ProtD} (h : ProtIs w w.heap.size cs p) (hsm : p.Small) (hT : SpOK w) (he : protE nameOK p = 0) :
    Calls Tryd.prog 13 #[.agg cs.toArray] w (Ret fun v w' => (∃ b0 b1 b2 b4 : Bool, v = .tuple #[.agg #[.bool b0, .bool b1, .bool b2, .bool (p.topo == 4), .bool b4], .int .i64 0]) ∧ Below w.heap.size w w') := by
  obtain ⟨A1, c1, A2, c2, A3, c3, A4, c4, A5, c5, A6, c6, A7, c7, hpsz, hp0, hp1, hp2, hp3, hp4, hp5, hp6, hp7, hp8, hp9, h1, h2, h3, h4, h5, h6, h7, hcap⟩ := h.cells
  have hn1 := hsm.states
  have hn2 := hsm.messages
  have hn3 := hsm.values
  have hn4 := hsm.res
  have hn7 := hsm.rules
  have hsmH := hide hsm
  have hRows := hide h7
  obtain ⟨w1, hw1, hb1, hB1, hk1⟩ := box_blk w cs.toArray 27
  obtain ⟨w2, hw2, hb2, hB2, hk2⟩ := box_blk w1 #[.bool false, .bool false, .bool false, .bool false, .bool false] 45
  have hs01 := hb1.size
  have hlt12 := hB1.lt
  have hX2 := hide (show ProtX w2 w.heap.size cs.toArray p from ⟨h.keep (fun _ hp => (hb2.cell (by omega)).trans (hb1.cell hp)) (by have := hb2.size; omega), hB1.below hb2, (hT.below hb1).below hb2⟩)
  have hbH := hide (hb1.trans (hb2.mono hs01))
  have hB2H := hide hB2
  generalize hpc : cs.toArray = pc at *
  obtain ⟨nr, hnr⟩ : ∃ n, n = p.res.length := ⟨_, rfl⟩
  obtain ⟨nm, hnm⟩ : ∃ n, n = p.messages.length := ⟨_, rfl⟩
  obtain ⟨nv, hnv⟩ : ∃ n, n = p.values.length := ⟨_, rfl⟩
  obtain ⟨ns, hns⟩ : ∃ n, n = p.states.length := ⟨_, rfl⟩
  obtain ⟨nu, hnu⟩ : ∃ n, n = p.rules.length := ⟨_, rfl⟩
  have hnuH := hide hnu
  simp only [← hnr, ← hnm, ← hnv, ← hns, ← hnu] at hp2 hp3 hp4 hp6 hp9 hn1 hn2 hn3 hn4 hn7 hcap
  obtain ⟨kt, hkt⟩ : ∃ n, n = p.topo := ⟨_, rfl⟩
  rw [← hkt] at hp1 ⊢
  have hpszH := hide hpsz
  have hval : ∀ wx, Hid (ProtX wx w.heap.size pc p) → Calls Tryd.prog 20 #[.agg pc] wx (Ret fun v w' => v = .int .i64 0 ∧ Below wx.heap.size wx w') := fun wx hx => by
    have := protValidate_any hx.out.pr hsmH.out hx.out.tab
    rw [he] at this
    exact this
  have hvalH := hide hval
  have hc2 := hX2.out.b.cell
  have hl2 := blk_load hX2.out.b hpsz
  clear h1 h2 h3 h4 h5 h6 h7 h hsm hb1 hb2 hB1 hB2 hk1 hk2 hpc hT hpsz he hnr hnm hnv hns hnu hkt hval
  have h00 : ((0 : Int) != 0) = false := rfl
  go_enter Tryd.func13, Tryd.ntmps13
  go_wp2_with (go_at_call 20; refine Calls.ret (hvalH.out _ hX2) ?_; rintro v w3 ⟨rfl, hb3⟩; have hX3 := hide (hX2.out.at hb3); have hc3 := hX3.out.b.cell; have hB3 := hide (hB2H.out.below hb3); have hb03 := hide (hbH.out.trans (hb3.mono hbH.out.size)); clear hb3)
  go_loopw [5, 6, 20] (fun v5 v6 ii wr => ∃ (k : Nat) (b5 b6 : Bool), v5 = .bool b5 ∧ v6 = .bool b6 ∧ ii = .int .i64 (k : Int) ∧ k ≤ nu ∧ Hid (Below w3.heap.size w3 wr)) (fun _ _ ii _ => nu - (intOf ii).toNat)
  case atStart => exact ⟨0, true, false, rfl, rfl, rfl, Nat.zero_le _, Below.refl _ _⟩
  case round =>
    obtain ⟨k, b5, b6, rfl, rfl, rfl, hk, hbr⟩ := hrel
    have hX4 := hide (hX3.out.at hbr.out)
    have hc4 := hX4.out.b.cell
    have hb04 := hide (hb03.out.trans (hbr.out.mono hb03.out.size))
    by_cases hlt : k < nu
    · obtain ⟨r, hr⟩ : ∃ r, p.rules[k]? = some r := ⟨_, List.getElem?_eq_getElem (by have := hnuH.out; omega)⟩
      obtain ⟨b, off, rc, hA, hbk, hC, hcs, hlc⟩ := rows_rule (hRows.out.keep (w' := wr) (B' := w.heap.size) (R' := RuleIs wr w.heap.size) (fun _ hp => hb04.out.cell hp) (fun _ _ h => h.keep (fun _ hp => hb04.out.cell hp) (Nat.le_refl _)) (Nat.le_refl _)) hr
      obtain ⟨w5, hw5, hb5, hB5, hk5⟩ := box_blk wr rc 51
      have hsc := store_new wr 51 18 (by kernel_rfl) hC.size hC.one
      rw [hw5] at hsc
      obtain ⟨E1, f1, E2, f2, hr1, hr2, hr3, hr8, hr9⟩ := hC.cells4
      have hrsz := hC.size
      have hc51 : w5.cell? ⟨wr.heap.size, 1, none⟩ = some (.int .i64 r.kind) := by rw [hB5.cell, hr1]
      have hc52 : w5.cell? ⟨wr.heap.size, 2, none⟩ = some (.int .i64 r.fr) := by rw [hB5.cell, hr2]
      have hc53 : w5.cell? ⟨wr.heap.size, 3, none⟩ = some (.int .i64 r.to) := by rw [hB5.cell, hr3]
      obtain ⟨ne, hne⟩ : ∃ n, n = r.ex.length := ⟨_, rfl⟩
      obtain ⟨nf, hnf⟩ : ∃ n, n = r.fa.length := ⟨_, rfl⟩
      have hc58 : w5.cell? ⟨wr.heap.size, 8, none⟩ = some (.slice E1 ne f1) := by rw [hB5.cell, hr8, hne]
      have hc59 : w5.cell? ⟨wr.heap.size, 9, none⟩ = some (.slice E2 nf f2) := by rw [hB5.cell, hr9, hnf]
      obtain ⟨kk, hkk⟩ : ∃ n, n = r.kind := ⟨_, rfl⟩
      obtain ⟨kf, hkf⟩ : ∃ n, n = r.fr := ⟨_, rfl⟩
      obtain ⟨ko, hko⟩ : ∃ n, n = r.to := ⟨_, rfl⟩
      rw [← hkk] at hc51
      rw [← hkf] at hc52
      rw [← hko] at hc53
      have hb35 := hide (hbr.out.trans (hb5.mono hbr.out.size))
      subst hA
      clear hcs hC hk5 hB5 hr hr1 hr2 hr3 hr8 hr9 hb5 hne hnf hkk hkf hko
      cases b5 <;> cases b6
      all_goals
        go_wp2_with fail
        all_goals exact ⟨⟨k + 1, _, _, rfl, rfl, by go_num, by omega, hb35.out⟩, by simp [intOf]; omega⟩
    · have hst := storeB5 (hB3.out.below hbr.out)
      have hBF := hide (hB3.out.below hbr.out)
      go_wp2_with fail
      all_goals
        refine cl_end hBF.out hb04.out hs01 ?_ rfl rfl
        first
          | rfl
          | (have hk4 : kt ≠ 4 := by omega
             simp [hk4])
theorem check_any {w : World} {cs ds : List Value} {p : ProtD} {q : PropD} (h : ProtIs w w.heap.size cs p) (h' : PropIs w w.heap.size ds q) (hsm : p.Small) (hsq : q.Small) (hT : SpOK w) :
  Calls Tryd.prog 6 #[.agg cs.toArray, .agg ds.toArray] w (Ret fun v w' => v = .int .i64 (checkE nameOK p q) ∧ Below w.heap.size w w') := by
 obtain ⟨B1, d1, B2, d2, B3, d3, B4, d4, hqsz, hq0, hq1, hq2, hq3, hq4, hq5, k1, k2, k3, k4⟩ := h'.cells
 have hpsz := h.rules_at.1
 obtain ⟨w1, hw1, hb1, hB1, hk1⟩ := box_blk w cs.toArray 27
 obtain ⟨w2, hw2, hb2, hB2, hk2⟩ := box_blk w1 ds.toArray 30
 have hb02 := hide (hb1.trans (hb2.mono hb1.size))
 have hX2 := hide (show PQX w2 w.heap.size w1.heap.size cs.toArray ds.toArray p q from ⟨h.keep (fun _ hp => hb02.out.cell hp) hb02.out.size, h'.keep (fun _ hp => hb02.out.cell hp) hb02.out.size, hB1.below hb2, hB2, hT.below hb02.out⟩)
 generalize hpc : cs.toArray = pc at *
 generalize hqc : ds.toArray = qc at *
 obtain ⟨e5, he5⟩ : ∃ e, Hid (propE nameOK p q = e) := ⟨_, rfl⟩
 have hval : ∀ wx, Hid (PQX wx w.heap.size w1.heap.size pc qc p q) → Calls Tryd.prog 12 #[.agg pc, .agg qc] wx (Ret fun v w' => v = .int .i64 e5 ∧ Below wx.heap.size wx w') := fun wx hx => by
  rw [← he5.out]
  exact propValidate_any hx.out.pr hx.out.qr hsm hsq hx.out.tab
 have hvalH := hide hval
 have hcl : protE nameOK p = 0 → ∀ wx, Hid (PQX wx w.heap.size w1.heap.size pc qc p q) → Calls Tryd.prog 13 #[.agg pc] wx (Ret fun v w' => (∃ b0 b1 b2 b4 : Bool, v = .tuple #[.agg #[.bool b0, .bool b1, .bool b2, .bool (p.topo == 4), .bool b4], .int .i64 0]) ∧ Below wx.heap.size wx w') := fun he wx hx => classify_any hx.out.pr hsm hx.out.tab he
 have hclH := hide hcl
 have hl22 := blk_load hX2.out.b2 hpsz
 have hl32 := blk_load hX2.out.b3 hqsz
 have hc32 := hX2.out.b3.cell
 obtain ⟨kq, hkq⟩ : ∃ n, n = q.kind := ⟨_, rfl⟩
 rw [← hkq] at hq1
 have hkqH := hide hkq
 have hpszH := hide hpsz
 have hqszH := hide hqsz
 clear k1 k2 k3 k4 h h' hsm hsq hb1 hb2 hB1 hB2 hk1 hk2 hpc hqc hT hpsz hqsz hval hcl hq0 hq2 hq3 hq4 hq5 hkq
 by_cases h5 : e5 = 0
 case neg =>
  have hq5 : (e5 != 0) = true := by simp [h5]
  have h5H := hide h5
  clear h5
  go_enter Tryd.func6, Tryd.ntmps6
  go_wp2_with (go_at_call 12; refine Calls.ret (hvalH.out _ hX2) ?_; rintro v w3 ⟨rfl, hb3⟩; have hb03 := hide (hb02.out.trans (hb3.mono hb02.out.size)); clear hb3)
  go_ret
  refine ⟨congrArg (Value.int .i64) ?_, hb03.out⟩
  unfold checkE
  rw [he5.out, orE_ne h5H.out]
 have hq5 : (e5 != 0) = false := by simp [h5]
 have hpr : protE nameOK p = 0 := by
  have h1 := he5.out
  rw [h5] at h1
  unfold propE orE at h1
  split at h1
  ·assumption
  ·exact absurd h1 ‹_›
 have hprH := hide hpr
 have hfin := hide (show checkE nameOK p q = whenE (!decide (p.topo = 4) || !decide (kq = 1)) 7 from by
  unfold checkE
  rw [he5.out, h5, orE_zero, hkqH.out])
 clear h5 hpr
 cases ht : (p.topo == 4)
 ·have hfz := hide (show checkE nameOK p q = 7 from by
   rw [hfin.out, decide_eq_false (show ¬ p.topo = 4 by simpa using ht)]
   rfl)
  have hcl2 : ∀ wx, Hid (PQX wx w.heap.size w1.heap.size pc qc p q) → Calls Tryd.prog 13 #[.agg pc] wx (Ret fun v w' => (∃ b0 b1 b2 b4 : Bool, v = .tuple #[.agg #[.bool b0, .bool b1, .bool b2, .bool false, .bool b4], .int .i64 0]) ∧ Below wx.heap.size wx w') := fun wx hx => by
   have := hclH.out hprH.out wx hx
   rw [ht] at this
   exact this
  have hcl2H := hide hcl2
  clear ht hcl2
  go_enter Tryd.func6, Tryd.ntmps6
  go_wp2_with (first
   | (go_at_call 12; refine Calls.ret (hvalH.out _ hX2) ?_; rintro v w3 ⟨rfl, hb3⟩; have hX3 := hide (hX2.out.at hb3); have hl23 := blk_load hX3.out.b2 hpszH.out; have hc33 := hX3.out.b3.cell; have hb03 := hide (hb02.out.trans (hb3.mono hb02.out.size)); clear hb3)
   | (go_at_call 13; refine Calls.ret (hcl2H.out _ hX3) ?_; rintro v w4 ⟨⟨b0, b1, b2, b4, rfl⟩, hb4⟩; have hb04 := hide (hb03.out.trans (hb4.mono hb03.out.size)); obtain ⟨w5, hw5, hb5, hB5, hk5⟩ := box_blk w4 #[.bool b0, .bool b1, .bool b2, .bool false, .bool b4] 45; have hc5 := hB5.cell; have hb05 := hide (hb04.out.trans (hb5.mono hb04.out.size)); have hsc : ∀ cq : Array Value, cq.size = 5 → (storeCells ⟨w4.heap.size, 0, none⟩ [.bool b0, .bool b1, .bool b2, .bool false, .bool b4] 0).run Tryd.prog (w4.alloc (.cells cq 45)) = .ok () w5 := (fun cq hc => by rw [← hw5]; exact store_new w4 45 5 (by kernel_rfl) (rc := #[.bool b0, .bool b1, .bool b2, .bool false, .bool b4]) rfl (by simp [Value.oneCell']) cq hc); clear hb4 hb5 hB5 hk5))
  go_ret
  exact ⟨by rw [hfz.out]; rfl, hb05.out⟩
 ·have hcl2 : ∀ wx, Hid (PQX wx w.heap.size w1.heap.size pc qc p q) → Calls Tryd.prog 13 #[.agg pc] wx (Ret fun v w' => (∃ b0 b1 b2 b4 : Bool, v = .tuple #[.agg #[.bool b0, .bool b1, .bool b2, .bool true, .bool b4], .int .i64 0]) ∧ Below wx.heap.size wx w') := fun wx hx => by
   have := hclH.out hprH.out wx hx
   rw [ht] at this
   exact this
  have hcl2H := hide hcl2
  have hfz := hide (show checkE nameOK p q = whenE (!decide (kq = 1)) 7 from by
   rw [hfin.out, decide_eq_true (show p.topo = 4 by simpa using ht)]
   rfl)
  clear ht hcl2
  cases hkk : (kq != 1)
  all_goals
   have hfy := hide (show checkE nameOK p q = whenE (kq != 1) 7 from by rw [hfz.out]; congr 1)
   have hkkH := hide hkk
   go_enter Tryd.func6, Tryd.ntmps6
   go_wp2_with (first
    | (go_at_call 12; refine Calls.ret (hvalH.out _ hX2) ?_; rintro v w3 ⟨rfl, hb3⟩; have hX3 := hide (hX2.out.at hb3); have hl23 := blk_load hX3.out.b2 hpszH.out; have hc33 := hX3.out.b3.cell; have hb03 := hide (hb02.out.trans (hb3.mono hb02.out.size)); clear hb3)
    | (go_at_call 13; refine Calls.ret (hcl2H.out _ hX3) ?_; rintro v w4 ⟨⟨b0, b1, b2, b4, rfl⟩, hb4⟩; have hX4 := hide (hX3.out.at hb4); have hb04 := hide (hb03.out.trans (hb4.mono hb03.out.size)); obtain ⟨w5, hw5, hb5, hB5, hk5⟩ := box_blk w4 #[.bool b0, .bool b1, .bool b2, .bool true, .bool b4] 45; have hX5 := hide (hX4.out.at hb5); have hc35 := hX5.out.b3.cell; have hc5 := hB5.cell; have hb05 := hide (hb04.out.trans (hb5.mono hb04.out.size)); have hsc : ∀ cq : Array Value, cq.size = 5 → (storeCells ⟨w4.heap.size, 0, none⟩ [.bool b0, .bool b1, .bool b2, .bool true, .bool b4] 0).run Tryd.prog (w4.alloc (.cells cq 45)) = .ok () w5 := (fun cq hc => by rw [← hw5]; exact store_new w4 45 5 (by kernel_rfl) (rc := #[.bool b0, .bool b1, .bool b2, .bool true, .bool b4]) rfl (by simp [Value.oneCell']) cq hc); clear hb4 hb5 hB5 hk5))
   go_ret
   exact ⟨by rw [hfy.out, hkkH.out]; rfl, hb05.out⟩
end Go.Proofs.YtbjdgepfhhafjaaDoor
