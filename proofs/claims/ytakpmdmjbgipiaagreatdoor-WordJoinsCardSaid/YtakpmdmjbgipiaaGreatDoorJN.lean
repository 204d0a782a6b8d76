/-
  Part JN of a proof.
-/
import Derived.Test.YtakpmdmjbgipiaaGreatDoorPA
import Derived.Test.YtakpmdmjbgipiaaGreatDoorJM
set_option maxHeartbeats 16000000
set_option maxRecDepth 100000
set_option linter.unusedVariables false
set_option linter.unusedSimpArgs false
namespace Go.Proofs.YtakpmdmjbgipiaaGreatDoor
open Go.RowKit
set_option maxHeartbeats 16000000
set_option maxRecDepth 100000
def hldF (o : Int) (x y : Bool) : Bool := if o = 1 then x && y else if o = 2 then x || y else if o = 3 then x && !y else x != y
theorem holds_any {w : World} (o : Int) (x y : Bool) : Calls Tryz.prog 67 #[.int .i64 o, .bool x, .bool y] w (Ret fun r w' => r = .bool (hldF o x y) ∧ w' = w) := by
 by_cases h1 : o = 1
 ·subst h1
  cases x <;> cases y <;> (go_enter Tryz.func67, Tryz.ntmps67; go_wp2_with fail; exact bodyPost_ret (by simp [results, Tryz.results67, go_sem, hldF]) rfl ⟨rfl, rfl⟩)
 ·by_cases h2 : o = 2
  ·subst h2
   cases x <;> cases y <;> (go_enter Tryz.func67, Tryz.ntmps67; go_wp2_with fail; exact bodyPost_ret (by simp [results, Tryz.results67, go_sem, hldF]) rfl ⟨rfl, rfl⟩)
  ·by_cases h3 : o = 3
   ·subst h3
    cases x <;> cases y <;> (go_enter Tryz.func67, Tryz.ntmps67; go_wp2_with fail; exact bodyPost_ret (by simp [results, Tryz.results67, go_sem, hldF]) rfl ⟨rfl, rfl⟩)
   ·have e1 : (o == 1) = false := by simp [h1]
    have e2 : (o == 2) = false := by simp [h2]
    have e3 : (o == 3) = false := by simp [h3]
    have hh : hldF o x y = (x != y) := by unfold hldF; rw [if_neg h1, if_neg h2, if_neg h3]
    rw [hh]
    cases x <;> cases y <;> (go_enter Tryz.func67, Tryz.ntmps67; go_wp2_with fail; exact bodyPost_ret (by simp [results, Tryz.results67, go_sem]) rfl ⟨rfl, rfl⟩)
end Go.Proofs.YtakpmdmjbgipiaaGreatDoor
namespace Go.Proofs.YtakpmdmjbgipiaaGreatDoor
open Go.RowKit
set_option maxHeartbeats 16000000
set_option maxRecDepth 100000
theorem JnM.toX {w0 wr : World} {g9 : Nat} {vN vA vF vG : Value} {all : List (Nat × Nat)} {t : List (List Nat)} {as' : List Bool} {ws : List Value} {N : Nat → Prop} (h : JnM w0 wr g9 vN vA vF vG all t as' ws N) (hN : ∀ k, N k → k < wr.heap.size) : JnX w0 wr g9 vN vA vF vG all t as' ws N (.slice none 0 0) :=
 ⟨h, hN, fun _ _ e => by simp [Value.ownBlock] at e, fun _ _ e => by simp [Value.ownBlock] at e, fun _ _ e => by simp [Value.ownBlock] at e⟩
theorem JnM.fin {w0 wr wF : World} {g9 g6 : Nat} {cs : Array Value} {vN vA vF vG : Value} {all : List (Nat × Nat)} {t : List (List Nat)} {as' : List Bool} {ws : List Value} {N : Nat → Prop} (h : JnM w0 wr g9 vN vA vF vG all t as' ws N) (hB : Blk wr g6 77 cs) (hk : Kept wr wF (fun k => k = g6)) : OwnDF wF w0.heap.size (.agg #[vN, vA]) t as' :=
 OwnDF.set ⟨vN, vA, ws, rfl, h.acc, h.nxt, h.nxtR.imp fun _ _ hh => ⟨hh.1, fun _ _ => trivial⟩⟩ hB hk
theorem jn_mem (w : World) (ca cb : Array Value) : ∃ w1 w2 w3, w.alloc (.cells ca 28) = w1 ∧ w1.alloc (.cells cb 28) = w2 ∧ w2.alloc (.cells #[sn0, sn0] 77) = w3 ∧ Below w.heap.size w w3 ∧ Blk w3 w.heap.size 28 ca ∧ Blk w3 w1.heap.size 28 cb ∧ Blk w3 w2.heap.size 77 #[sn0, sn0] ∧ w.heap.size < w1.heap.size ∧ w1.heap.size < w2.heap.size ∧ w2.heap.size < w3.heap.size := by
 obtain ⟨w1, h1, hb1, hB1, -⟩ := box_blk w ca 28
 obtain ⟨w2, h2, hb2, hB2, -⟩ := box_blk w1 cb 28
 obtain ⟨w3, h3, hb3, hB3, -⟩ := box_blk w2 #[sn0, sn0] 77
 have l1 := hB1.lt
 have l2 := hB2.lt
 have l3 := hB3.lt
 exact ⟨w1, w2, w3, h1, h2, h3, hb1.trans ((hb2.mono (by omega)).trans (hb3.mono (by omega))), (hB1.below hb2).below hb3, hB2.below hb3, hB3, l1, l2, l3⟩
theorem jn_start (w0 : World) : ∃ w4 w5 w6, w0.alloc (.cells #[sn0, sn0] 77) = w4 ∧ w4.alloc (.cells #[.int .i64 0] 3) = w5 ∧ w5.alloc (.cells #[.int .i64 0] 3) = w6 ∧ JnM w0 w6 w0.heap.size sn0 sn0 (.slice (some ⟨w4.heap.size, 0, none⟩) 1 1) (.slice (some ⟨w5.heap.size, 0, none⟩) 1 1) [(0, 0)] [] [] [] (fun _ => False) := by
 obtain ⟨w4, h4, hb4, hB4, -⟩ := box_blk w0 #[sn0, sn0] 77
 obtain ⟨w5, h5, hb5, hB5, -⟩ := box_blk w4 #[.int .i64 0] 3
 obtain ⟨w6, h6, hb6, hB6, -⟩ := box_blk w5 #[.int .i64 0] 3
 have s4 := hb4.size
 have s5 := hb5.size
 have s6 := hb6.size
 have l5 := hB5.lt
 have hB5' := hB5.below hb6
 refine ⟨w4, w5, w6, h4, h5, h6, hb4.trans ((hb5.mono s4).trans (hb6.mono (by omega))), (hB4.below hb5).below hb6, ?_, ?_, own_nil, own_nil, RowsI.nil, ?_, fun _ e => e.elim, fun _ e => e.elim, Nat.le_refl _⟩
 ·exact own_of_blk (base := w0.heap.size) (n := 1) hB5' (by omega) rfl (by omega)
 ·exact own_of_blk (base := w0.heap.size) (n := 1) hB6 (by omega) rfl (by omega)
 ·intro k h1 h2
  simp [Value.ownBlock] at h1 h2
  omega
end Go.Proofs.YtakpmdmjbgipiaaGreatDoor
namespace Go.Proofs.YtakpmdmjbgipiaaGreatDoor
open Go.RowKit
set_option maxHeartbeats 16000000
set_option maxRecDepth 100000
theorem jn_begin {w0 w4 w5 w6 : World} {vF vG : Value} (h4 : w0.alloc (.cells #[sn0, sn0] 77) = w4) (hk5 : Kept w4 w5 (fun k => (Value.slice none 0 0).ownBlock = some k)) (ho5 : w5.ownsRow w0.heap.size 3 1 vF 1 [.int .i64 0])
  (hk6 : Kept w5 w6 (fun k => (Value.slice none 0 0).ownBlock = some k)) (ho6 : w6.ownsRow w0.heap.size 3 1 vG 1 [.int .i64 0]) (hm6 : Moved w5 (.slice none 0 0) vG) : JnM w0 w6 w0.heap.size sn0 sn0 vF vG [(0, 0)] [] [] [] (fun _ => False) := by
 obtain ⟨w4', h4', hb4, hB4, -⟩ := box_blk w0 #[sn0, sn0] 77
 rw [h4] at h4'
 subst h4'
 have hno : ∀ k, ¬ (Value.slice none 0 0).ownBlock = some k := fun k e => by simp [Value.ownBlock] at e
 have s4 := hb4.size
 have s5 := hk5.size
 refine ⟨(hb4.trans (hk5.below s4 fun b _ e => hno b e)).trans (hk6.below (by omega) fun b _ e => hno b e), (hB4.kept hk5 (hno _)).kept hk6 (hno _), ?_, ?_, own_nil, own_nil, RowsI.nil, ?_, fun _ e => e.elim, fun _ e => e.elim, Nat.le_refl _⟩
 ·exact hk6.ownsRow ho5 fun g _ e => hno g e
 ·exact ho6
 ·intro k h1 h2
  rcases hm6 with hh | ⟨g', hh, hlt⟩
  ·rw [h2] at hh
   exact hno k hh.symm
  ·rw [h2] at hh
   have := Option.some.inj hh
   have := own_lt ho5 h1
   omega
theorem join_any {w : World} {v1 v2 : Value} {L : Nat} {t u : List (List Nat)} {ac bc : List Bool} {o : Int} (hA : IsWA w w.heap.size v1 (plainW L t ac)) (hB : IsWA w w.heap.size v2 (plainW L u bc)) (hok : DOK L t ac) (hok' : DOK L u bc) (hn : ac.length ≤ 400) (hn' : bc.length ≤ 400) (hL1 : 1 ≤ L) (hL : L ≤ 8) :
    Calls Tryz.prog 40 #[v1, v2, .int .i64 o] w (Ret fun r w' => Below w.heap.size w w' ∧ ∃ all, Disc L (dPr t u) (0, 0) all ∧ all.length ≤ ac.length * bc.length ∧ OwnDF w' w.heap.size r (rowsG L (dPr t u) all all.length) (all.map (accPr (hldF o) ac bc))) := by
  have hAH := hide hA
  have hBH := hide hB
  obtain ⟨A1, c1, A2, c2, A3, c3, rfl, -⟩ := hA
  obtain ⟨B1, d1, B2, d2, B3, d3, rfl, -⟩ := hB
  rw [show (plainW L t ac).letters = (L : Int) from rfl] at hAH ⊢
  rw [show (plainW L u bc).letters = (L : Int) from rfl] at hBH ⊢
  obtain ⟨w1, w2, w3, hw1, hw2, hw3, hb3, hB3, hB4, hB6, l1, l2, l3⟩ := jn_mem w #[.int .i64 (L : Int), .int .i64 (plainW L t ac).states, .slice A1 (plainW L t ac).start.length c1, .slice A2 (plainW L t ac).accept.length c2, .slice A3 (plainW L t ac).edges.length c3] #[.int .i64 (L : Int), .int .i64 (plainW L u bc).states, .slice B1 (plainW L u bc).start.length d1, .slice B2 (plainW L u bc).accept.length d2, .slice B3 (plainW L u bc).edges.length d3]
  have b03 := hide hb3
  have hB3H := hide hB3
  have hB4H := hide hB4
  have hB6H := hide hB6
  have hokH := hide hok
  have hokH' := hide hok'
  have hpH := hide (show ac.length * bc.length ≤ 160000 from Nat.mul_le_mul hn hn')
  clear hb3 hB3 hB4 hB6 hok hok'
  go_enter Tryz.func40, Tryz.ntmps40
  go_wp2_with fail
  refine jn_tabs (hAH.out.keep (fun p hp => b03.out.cell hp) b03.out.size) (hBH.out.keep (fun p hp => b03.out.cell hp) b03.out.size) hokH.out hokH'.out hn hn' hL1 hL hB3H.out hB4H.out ?_ ?_
  · repeat (first | exact Reg.NoQ.body (fun _ _ h => h) (fun _ h => h) | refine Reg.NoQ.then ?_ | refine Reg.NoQ.inBlock ?_)
  · iterate 4 (intro _)
    intro w0 g7 g8 v7 a7 v8 a8 hb0 hT7 hT8 hB7 hB8 hge
    obtain ⟨mb, mo, mc, rfl, hmb, hmk⟩ := hT7.mark
    obtain ⟨ub, uo, uc, rfl, hub, huk⟩ := hT8.mark
    have hmkH := hide hmk
    have hukH := hide huk
    clear hmk huk
    have b00 := hide (b03.out.trans (hb0.mono b03.out.size))
    have hT7H := hide hT7
    have hT8H := hide hT8
    have h30 := hide (hB3H.out.below hb0)
    have h60 := hide (hB6H.out.below hb0)
    have hB7H := hide hB7
    have hB8H := hide hB8
    have s0 := hb0.size
    obtain ⟨w4, hw4⟩ : ∃ w4, w0.alloc (.cells #[sn0, sn0] 77) = w4 := ⟨_, rfl⟩
    have s4 : w0.heap.size ≤ w4.heap.size := by
      obtain ⟨w4', h4', hb4, -, -⟩ := box_blk w0 #[sn0, sn0] 77
      rw [hw4] at h4'
      subst h4'
      exact hb4.size
    clear hb0 hT7 hT8 hB7 hB8
    go_wp2_with (
      at_builtin
      first
      | (refine wpList_app_new (w := w4) row3 rfl _ _ rfl w0.heap.size (.slice none 0 0) 0 _ rfl own_nil [.int .i64 0] 1 rfl rfl (by simp [Value.oneCell']) (by omega) s4 ?_
         intro gF cF w5 hown5 hk5 hmv5 hg5
         have s5 : w0.heap.size ≤ w5.heap.size := Nat.le_trans s4 hk5.size
         have hk5H := hide hk5
         have ho5H := hide hown5
         clear hown5 hk5 hmv5 hg5)
      | (refine wpList_app_new (w := w5) row3 rfl _ _ rfl w0.heap.size (.slice none 0 0) 0 _ rfl own_nil [.int .i64 0] 1 rfl rfl (by simp [Value.oneCell']) (by omega) s5 ?_
         intro gG cG w6 hown6 hk6 hmv6 hg6
         have hM0 := hide (jn_begin hw4 hk5H.out ho5H.out hk6 hown6 hmv6)
         clear hown6 hk6 hmv6 hg6))
    go_loopw [10, 11, 12] (fun ff gg ii wr => ∃ (i : Nat) (all : List (Nat × Nat)) (vN vA : Value) (ws : List Value) (N : Nat → Prop), ii = .int .i64 (i : Int) ∧ i ≤ 160000 ∧ Hid (JnM w0 wr w0.heap.size vN vA ff gg all (rowsG L (dPr t u) all i) ((all.take i).map (accPr (hldF o) ac bc)) ws N) ∧ Hid (∀ k, N k → k < wr.heap.size) ∧ Hid (Exp L (dPr t u) (0, 0) i all)) (fun _ _ ii _ => 160001 - (intOf ii).toNat)
    case atStart => exact ⟨0, [(0, 0)], sn0, sn0, [], _, rfl, Nat.zero_le _, hM0, hide fun _ e => e.elim, hide .start⟩
    case round =>
      obtain ⟨i, all, vN, vA, ws, N, rfl, hi, hI, hNl, hE⟩ := hrel
      obtain ⟨AF, cF', rfl⟩ := slice_of_own hI.out.f
      obtain ⟨AG, cG', rfl⟩ := slice_of_own hI.out.g
      have hall : all.length ≤ 160000 := Nat.le_trans (pr_len hokH.out hokH'.out hE.out) hpH.out
      have hle := hE.out.inv.le
      by_cases hlt : i < all.length
      · have hik : i + 1 ≤ 160000 := Nat.le_trans hlt hall
        obtain ⟨p, hpi⟩ := get_lt hlt
        have hpin := pr_in hokH.out hokH'.out hE.out (List.mem_of_getElem? hpi)
        have hpiH := hide hpi
        clear hpi
        go_wp2_with fail
        refine jn_x (hI.out.toX hNl.out) hT7H.out hT8H.out h30.out hB7H.out hB8H.out hL hpiH.out hpin.1 hpin.2 (by omega) ?_ ?_
        · repeat (first | exact Reg.NoQ.body (fun _ _ h => h) (fun _ h => h) | refine Reg.NoQ.then ?_ | refine Reg.NoQ.inBlock ?_)
        · iterate 70 (intro _)
          intro w9 vF' vG' vR all' hX hR hk
          have hpre : all <+: all' := by rw [hk]; exact rowL_pre _ _ _
          have hpi' := prefix_get hpre hpiH.out
          obtain ⟨gF', c1', gG', c2', rfl, rfl, -, -⟩ := hX.mem.at hpi'
          obtain ⟨AR, cR, rfl⟩ := slice_of_own hR
          obtain ⟨AN, cN, rfl⟩ := slice_of_own hX.mem.nxt
          obtain ⟨AA, cA, rfl⟩ := slice_of_own hX.mem.acc
          have htl : (rowsG L (dPr t u) all i).length = i := rowsG_len (by omega)
          have hasl : ((all.take i).map (accPr (hldF o) ac bc)).length = i := by simp; omega
          have hc9 := hX.mem.b9.cell
          have hnx := hX.mem.nxt
          rw [htl, hasl] at hc9
          rw [htl] at hnx
          have hsz := hX.mem.below.size
          have hi4 : i + 1 ≤ 4000000 := by omega
          have hXH := hide hX
          have hRH := hide hR
          have hkH := hide hk
          have htlH := hide htl
          have haslH := hide hasl
          have hpreH := hide hpre
          have hpi'H := hide hpi'
          obtain ⟨n', hn'⟩ : ∃ n', n' = all'.length := ⟨_, rfl⟩
          have hnH := hide hn'
          have hil' : i < n' := by rw [hn']; exact lt_of_get hpi'
          have hp1 := hpin.1
          have hp2 := hpin.2
          rw [← hn']
          clear hX hR hk hpre htl hasl hpi' hn' hlt hpin
          go_wp2_with (
            at_builtin
            refine wpList_app_new (w := w9) row22 rfl _ _ rfl w0.heap.size (.slice AN i cN) i _ rfl hnx [.slice AR L cR] 1 rfl rfl (by simp [Value.oneCell']) hi4 hsz ?_
            intro gX capX w7 hown7 hk7 hmv7 hgX
            have hk7' : Kept w9 w7 (fun b => (Value.slice AN (rowsG L (dPr t u) all i).length cN).ownBlock = some b) := (by rw [htlH.out]; exact hk7)
            have hb97 := hXH.out.mem.b9.kept hk7' (own_blk_ne hXH.out.mem.nxt hXH.out.mem.b9 (by decide))
            have hc97 := hb97.cell
            have hf97 := hb97.frozen 0
            have hl97 := hb97.lt
            rw [haslH.out] at hc97
            have hrr : w9.ownsRow w0.heap.size 3 1 (.slice AR L cR) (rowQ (dPr t u) all' p L).length ((natL (rowQ (dPr t u) all' p L)).map (Value.int .i64)) := (by rw [rowQ_len]; exact hRH.out)
            have hI7 := hXH.out.mem.addR (row := rowQ (dPr t u) all' p L) (vN' := .slice (some ⟨gX, 0, none⟩) (i + 1) capX) (N' := fun k => N k ∨ (Value.slice AR L cR).ownBlock = some k) hrr hk7' (by rw [htlH.out]; exact hown7) (fun _ h => .inl h) (fun _ h => .inr h) (fun k hk => hk.elim (hXH.out.mem.nF k) (fun h e => hXH.out.fr k e h)) (fun k hk => hk.elim (hXH.out.mem.nG k) (fun h e => hXH.out.gr k e h))
            have hs97 := hk7.size
            obtain ⟨wX, hwX⟩ : ∃ wX, w7.setCell ⟨w0.heap.size, 0, none⟩ (.slice (some ⟨gX, 0, none⟩) (i + 1) capX) = wX := ⟨_, rfl⟩
            have hsX : w7.heap.size ≤ wX.heap.size := (by rw [← hwX]; exact ((Kept.refl w7 (fun k => k = w0.heap.size)).setCell (p := ⟨w0.heap.size, 0, none⟩) (fun _ => rfl) _).size)
            rw [hwX] at hI7
            have hIX := hide hI7
            have hc9X := hI7.b9.cell
            rw [haslH.out] at hc9X
            have hc7X := (hB7H.out.below hI7.below).cell
            have hc8X := (hB8H.out.below hI7.below).cell
            have hm1 := (hI7.below.cell (p := ⟨mb, mo + p.1, none⟩) hmb).trans (hmkH.out p.1 hp1)
            have hm2 := (hI7.below.cell (p := ⟨ub, uo + p.2, none⟩) hub).trans (hukH.out p.2 hp2)
            obtain ⟨gF2, k1, gG2, k2, q1, q2, q5, q6⟩ := hI7.at hpi'H.out
            injection q1 with q1 q11 q12
            injection q2 with q2 q21 q22
            injection q1 with q1
            injection q2 with q2
            injection q1 with q1
            injection q2 with q2
            subst q1 q2 q12 q22
            clear hown7 hk7 hk7' hmv7 hb97 hI7 hrr q11 q21)
          have hho := holds_any (w := wX.drew) o (dac ac p.1) (dac bc p.2)
          obtain ⟨bh, hbh⟩ : ∃ bh, bh = hldF o (dac ac p.1) (dac bc p.2) := ⟨_, rfl⟩
          rw [← hbh] at hho
          have hbhH := hide hbh
          have haccX := hIX.out.acc
          rw [haslH.out] at haccX
          have hszX := hIX.out.below.size
          clear hbh
          refine Reg.cC [0, 1, 0, 0, 8, 0, 0, 96, 224, 504, 1016, 0, 2048, 0, 0, 24576, 57344, 129024, 260096, 524284, 1048572, 2097151, 4194303, 8388607] (List.range 24) ?_
          refine Reg.rest_walk' [0, 1, 2, 3, 4, 5, 6, 7, 8, 9, 10, 11, 12, 13, 14, 15, 16, 17, 18] [19, 20, 21, 22, 23] rfl (by kernel_rfl) ?_
          intro Qf hQf
          go_wp2_with fail
          first | refine hQf _ _ ?_ | skip
          try clear hQf
          refine Reg.rest_act' 19 [20, 21, 22, 23] [1] rfl (by kernel_rfl) ?_
          intro Qf hQf
          simp only [gT, gS, gZ]
          go_wp2_with fail
          refine Calls.ret hho ?_
          rintro r w8 ⟨rfl, rfl⟩
          clear hho
          go_wp2_with fail
          first | refine hQf _ _ ⟨Reg.same_below (Below.refl _ _) [1] rfl, ?_⟩ | refine ⟨Reg.same_below (Below.refl _ _) [1] rfl, ?_⟩
          try clear hQf
          refine Reg.rest_walk' [20] [21, 22, 23] rfl (by kernel_rfl) ?_
          intro Qf hQf
          go_wp2_with fail
          first | refine hQf _ _ ?_ | skip
          try clear hQf
          refine Reg.rest_act' 21 [22, 23] [] rfl (by kernel_rfl) ?_
          intro Qf hQf
          simp only [gT, gS, gZ]
          refine wpList_app_new (w := wX.drew) row4 rfl _ _ rfl w0.heap.size (.slice AA i cA) i _ rfl haccX [.bool bh] 1 rfl rfl (by simp [Value.oneCell']) hi4 hszX ?_
          intro gA capA wA hownA hkA hmvA hgA
          have hkA' : Kept wX wA (fun b => (Value.slice AA ((all.take i).map (accPr (hldF o) ac bc)).length cA).ownBlock = some b) := by
            rw [haslH.out]
            exact ⟨hkA.os, hkA.tape, hkA.output, hkA.size, hkA.block⟩
          have hb9A := hIX.out.b9.kept hkA' (own_blk_ne hIX.out.acc hIX.out.b9 (by decide))
          have hfA := hb9A.frozen 1
          have hlA := hb9A.lt
          have hcA := hb9A.cell
          have hIA := hide (hIX.out.addA (b := bh) (vA' := .slice (some ⟨gA, 0, none⟩) (i + 1) capA) hkA' (by rw [haslH.out]; exact hownA))
          have hsA : wX.heap.size ≤ wA.heap.size := hkA'.size
          refine hQf _ _ ⟨Reg.nm, ?_⟩
          clear hQf hownA hkA hkA' hmvA hb9A haccX
          refine Reg.rest_walk' [22, 23] [] rfl (by kernel_rfl) ?_
          intro Qf hQf
          go_wp2_with fail
          first | refine hQf _ _ ?_ | skip
          try clear hQf
          refine Reg.rest_end ?_
          go_wp2_with fail
          refine ⟨⟨i + 1, all', .slice (some ⟨gX, 0, none⟩) (i + 1) capX, .slice (some ⟨gA, 0, none⟩) (i + 1) capA, ws ++ [.slice AR L cR], (fun k => N k ∨ (Value.slice AR L cR).ownBlock = some k), by go_num, hik, ?_, ?_, ?_⟩, by simp [intOf]; omega⟩
          · have h1 := hIA.out
            have e1 : rowsG L (dPr t u) all i ++ [rowQ (dPr t u) all' p L] = rowsG L (dPr t u) all' (i + 1) := by
              rw [rowsG_succ hpi'H.out, rowsG_ext hE.out hpreH.out]
              rfl
            have e2 : (all.take i).map (accPr (hldF o) ac bc) ++ [bh] = (all'.take (i + 1)).map (accPr (hldF o) ac bc) := by
              rw [take_snoc hpi'H.out, List.map_append, hbhH.out]
              congr 2
              obtain ⟨u, hu⟩ := hpreH.out
              rw [← hu, List.take_append_of_le_length (by have := lt_of_get hpiH.out; omega)]
            rw [e1, e2] at h1
            rw [hnH.out]
            exact h1
          · refine hide fun k hk => ?_
            have h9 : k < w9.heap.size := hk.elim (hXH.out.nl k) (own_lt hRH.out)
            have hsF := ((Kept.refl wA (fun k => k = w0.heap.size)).setCell (p := ⟨w0.heap.size, 1, none⟩) (fun _ => rfl) (.slice (some ⟨gA, 0, none⟩) (i + 1) capA)).size
            exact Nat.lt_of_lt_of_le h9 (Nat.le_trans hs97 (Nat.le_trans hsX (Nat.le_trans hsA hsF)))
          · show Exp _ _ _ _ _
            rw [hkH.out]
            exact .row hE.out hpiH.out
      · obtain rfl : i = all.length := by omega
        have hD := hide hE.out
        obtain ⟨AN, cN, rfl⟩ := slice_of_own hI.out.nxt
        obtain ⟨AA, cA, rfl⟩ := slice_of_own hI.out.acc
        have htl : (rowsG L (dPr t u) all all.length).length = all.length := rowsG_len (Nat.le_refl _)
        have hasl : ((all.take all.length).map (accPr (hldF o) ac bc)).length = all.length := by simp
        have h6 := h60.out.below hI.out.below
        have hf6 := h6.frozen
        have hl6 := h6.lt
        have hc6 := h6.cell
        have hc9 := hI.out.b9.cell
        obtain ⟨wF, hwF, hBF, hKF⟩ := set2_facts h6 (.slice AN (rowsG L (dPr t u) all all.length).length cN) (.slice AA ((all.take all.length).map (accPr (hldF o) ac bc)).length cA)
        have hBFc := hBF.cell
        have s00 := b00.out.size
        have s9 := hI.out.below.size
        have hbF := hide ((b00.out.trans (hI.out.below.mono s00)).trans (hKF.below (Nat.le_trans s00 s9) fun b hb e => by omega))
        have hfin := (hI.out.fin h6 hKF).kept (base' := w.heap.size) (Kept.refl wF (fun _ => False)) (fun _ x => x.elim) s00
        rw [List.take_length] at hfin hasl hwF hBFc hc9
        rw [htl, hasl] at hfin hwF hBFc hc9
        have hfinH := hide hfin
        unfold set2 at hwF
        clear h6 hBF hKF hfin htl hasl hI hE hNl
        go_wp2_with fail
        refine bodyPost_ret (v := .agg #[.slice AN all.length cN, .slice AA all.length cA]) (by simp [results, Tryz.results40, go_sem, hBFc]) rfl ⟨hbF.out, all, hD.out, pr_len hokH.out hokH'.out hD.out, hfinH.out⟩
end Go.Proofs.YtakpmdmjbgipiaaGreatDoor
