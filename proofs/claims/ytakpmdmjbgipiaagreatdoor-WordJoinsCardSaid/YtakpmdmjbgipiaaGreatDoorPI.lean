/-
  Part PI of a proof.
-/
import Derived.Test.YtakpmdmjbgipiaaGreatDoorPA
import Derived.Test.YtakpmdmjbgipiaaGreatDoorPH
set_option maxHeartbeats 16000000
set_option maxRecDepth 100000
set_option linter.unusedVariables false
set_option linter.unusedSimpArgs false
namespace Go.Proofs.YtakpmdmjbgipiaaGreatDoor
open Go.RowKit
set_option maxHeartbeats 16000000
set_option maxRecDepth 100000
theorem keyN3 : KeyOK Tryz.prog 3 encN := keyOK_int .i64 Tryz.underlying3 (fun n : Nat => (n : Int)) (fun a b h => by omega)
theorem quo_mem (w : World) (cs : Array Value) (k0 : Nat) : ∃ g2 g4 g5 gs gm w1 w2 w3 w4 w5 w6, g2 = w.heap.size ∧ g4 = w1.heap.size ∧ g5 = w2.heap.size ∧ gs = w5.heap.size ∧ w.alloc (.cells cs 52) = w1 ∧ w1.alloc (.cells #[sn0, sn0] 52) = w2 ∧ w2.alloc (.cells #[sn0, sn0] 52) = w3 ∧ (Instr.makeMap 136 none).run Tryz.prog w3 = .ok (.map (some gm)) w4 ∧
  (Instr.mapUpdate 136 (.map (some gm)) (.int .i64 (k0 : Int)) (.int .i64 0)).run Tryz.prog w4 = .ok () w5 ∧ w5.alloc (.cells #[.int .i64 0] 3) = w6 ∧ Below w.heap.size w w4 ∧
  QM w w6 g2 g4 g5 gm cs [k0] [0] [] [] (.slice (some ⟨gs, 0, none⟩) 1 1) sn0 sn0 [] (fun _ => True) := by
 obtain ⟨w1, h1, hb1, hB1, hk1⟩ := box_blk w cs 52
 obtain ⟨w2, h2, hb2, hB2, hk2⟩ := box_blk w1 #[sn0, sn0] 52
 obtain ⟨w3, h3, hb3, hB3, hk3⟩ := box_blk w2 #[sn0, sn0] 52
 obtain ⟨gm, w4, h4, hM4, hb4, hgm⟩ := mk_map 136 w3
 obtain ⟨w5, h5, hM5, hg5, hs5⟩ := run_idx_store keyN3 Tryz.underlying136 (l := []) hM4 k0 (by simp)
 have hk5 := Kept.of_grown hg5
 obtain ⟨w6, h6, hb6, hB6, hk6⟩ := box_blk w5 #[.int .i64 0] 3
 have s1 := hb1.size
 have s2 := hb2.size
 have s3 := hb3.size
 have s4 := hb4.size
 have s6 := hb6.size
 have l1 := hB1.lt
 have l2 := hB2.lt
 have l3 := hB3.lt
 have b03 : Below w.heap.size w w3 := hb1.trans ((hb2.mono s1).trans (hb3.mono (by omega)))
 have b04 : Below w.heap.size w w4 := b03.trans (hb4.mono (by omega))
 have b36 : Below w3.heap.size w4 w6 := (hk5.below s4 fun b hb e => by have := Option.some.inj e; omega).trans (hb6.mono (by omega))
 have b06 : Below w3.heap.size w3 w6 := hb4.trans b36
 have hO : w6.ownsRow w.heap.size 3 1 (.slice (some ⟨w5.heap.size, 0, none⟩) 1 1) 1 ((natL [0]).map (Value.int .i64)) := by
  have := own_of_blk (base := w.heap.size) (n := 1) hB6 (by omega) rfl (by omega)
  exact this
 exact ⟨_, _, _, _, gm, w1, w2, w3, w4, w5, w6, rfl, rfl, rfl, rfl, h1, h2, h3, h4, h5, h6, b04,
  ⟨b03.trans (b06.mono (by omega)), ((hB1.below hb2).below hb3).below b06, (hB2.below hb3).below b06, hB3.below b06, hM5.keep (hb6.block _ hM5.lt), hO, own_nil, own_nil, .nil, ⟨by omega, by omega⟩, ⟨Nat.le_refl _, s1, by omega, by omega⟩⟩⟩
structure QuoI (w0 wr : World) (g2 g4 g5 gm : Nat) (c2 : Array Value) (L : Nat) (nx : Nat → Nat → Nat) (cl : List Nat) (ac : List Bool) (i : Nat) (st : List Nat) (vS vN vA : Value) (ws : List Value) : Prop where
 mem : QM w0 wr g2 g4 g5 gm c2 (st.map fun s => cl.getD s 0) st (rowsG L (clsNx nx cl) (st.map fun s => cl.getD s 0) i) ((st.take i).map (dac ac)) vS vN vA ws (fun _ => True)
 exp : Exp L (clsNx nx cl) (cl.getD 0 0) i (st.map fun s => cl.getD s 0)
 lt : ∀ s ∈ st, s < ac.length
theorem QuoI.len {w0 wr : World} {g2 g4 g5 gm L i : Nat} {c2 : Array Value} {nx : Nat → Nat → Nat} {acc : Nat → Bool} {cl : List Nat} {ac : List Bool} {st : List Nat} {vS vN vA : Value} {ws : List Value} (h : QuoI w0 wr g2 g4 g5 gm c2 L nx cl ac i st vS vN vA ws) (hW : ClsW L ac.length nx acc cl) : st.length ≤ ac.length := by
 have := sub_len _ (List.range ac.length) h.exp.inv.nodup fun v hv => by
  obtain ⟨s, hs, rfl⟩ := List.mem_map.1 hv
  exact List.mem_range.2 (hW.lt s (h.lt s hs))
 simpa using this
structure QuoJ (w0 wr : World) (g2 g4 g5 gm : Nat) (c2 : Array Value) (L : Nat) (nx : Nat → Nat → Nat) (cl : List Nat) (ac : List Bool) (i q gr x : Nat) (st st' : List Nat) (vS vN vA : Value) (ws : List Value) : Prop where
 mem : QM w0 wr g2 g4 g5 gm c2 (st'.map fun s => cl.getD s 0) st' (rowsG L (clsNx nx cl) (st.map fun s => cl.getD s 0) i) ((st.take (i + 1)).map (dac ac)) vS vN vA ws (fun g => g ≠ gr)
 eq : (st'.map fun s => cl.getD s 0) = rowL (clsNx nx cl) (cl.getD q 0) (st.map fun s => cl.getD s 0) x
 pre : st <+: st'
 lt : ∀ s ∈ st', s < ac.length
 sep : vS.ownBlock ≠ some gr
 blk : Blk wr gr 3 (rangeC L fun y => if y < x then Value.int .i64 (posL (st'.map fun s => cl.getD s 0) (clsNx nx cl (cl.getD q 0) y) : Int) else .int .i64 0)
section
variable {w0 wr : World} {g2 g4 g5 gm L i q gr x : Nat} {c2 : Array Value} {nx : Nat → Nat → Nat} {acc : Nat → Bool} {cl : List Nat} {ac : List Bool} {st st' : List Nat} {vS vN vA : Value} {ws : List Value}
theorem QuoJ.len (h : QuoJ w0 wr g2 g4 g5 gm c2 L nx cl ac i q gr x st st' vS vN vA ws) (hE : (st.map fun s => cl.getD s 0).Nodup) (hW : ClsW L ac.length nx acc cl) : st'.length ≤ ac.length := by
 have hn : (st'.map fun s => cl.getD s 0).Nodup := by rw [h.eq]; exact rowL_nodup _ hE _
 have := sub_len _ (List.range ac.length) hn fun v hv => by
  obtain ⟨s, hs, rfl⟩ := List.mem_map.1 hv
  exact List.mem_range.2 (hW.lt s (h.lt s hs))
 simpa using this
theorem posl_fill {k k' : List Nat} {f : Nat → Nat} (hp : ∀ y, y < x → posL k' (f y) = posL k (f y)) {u : Value} (hu : u = .int .i64 (posL k' (f x) : Int)) {w1 : World} (hB : Blk w1 gr 3 (rangeC L fun y => if y < x then Value.int .i64 (posL k (f y) : Int) else .int .i64 0)) :
  Blk (w1.setCell ⟨gr, x, none⟩ u) gr 3 (rangeC L fun y => if y < x + 1 then Value.int .i64 (posL k' (f y) : Int) else .int .i64 0) := by
 have h1 := hB.set_ x u
 rw [rangeC_set] at h1
 rw [rangeC_congr (g := fun y => if y = x then u else if y < x then Value.int .i64 (posL k (f y) : Int) else .int .i64 0) (fun y _ => by
  by_cases e : y = x
  ·subst e; rw [if_pos (by omega), if_pos rfl, hu]
  ·by_cases e2 : y < x
   ·rw [if_pos (by omega), if_neg e, if_pos e2, hp y e2]
   ·rw [if_neg (by omega), if_neg e, if_neg e2])]
 exact h1
theorem QuoJ.old (h : QuoJ w0 wr g2 g4 g5 gm c2 L nx cl ac i q gr x st st' vS vN vA ws) {z : Nat} (hz : clsNx nx cl (cl.getD q 0) x = z) (hm : z ∈ st'.map fun s => cl.getD s 0) (hg : w0.heap.size ≤ gr) :
  QuoJ w0 (wr.setCell ⟨gr, x, none⟩ (.int .i64 (posL (st'.map fun s => cl.getD s 0) z : Int))) g2 g4 g5 gm c2 L nx cl ac i q gr (x + 1) st st' vS vN vA ws := by
 have hk := (Kept.refl wr (fun k => k = gr)).setCell (p := ⟨gr, x, none⟩) (fun _ => rfl) (.int .i64 (posL (st'.map fun s => cl.getD s 0) z : Int))
 refine ⟨h.mem.other (fun _ h => h) h.sep h.blk hg hk, ?_, h.pre, h.lt, h.sep, posl_fill (fun _ _ => rfl) (by rw [hz]) h.blk⟩
 rw [rowL_succ, ← h.eq, hz, meet_old hm]
theorem QuoJ.new (h : QuoJ w0 wr g2 g4 g5 gm c2 L nx cl ac i q gr x st st' vS vN vA ws) {s z : Nat} {vS' : Value} {wm w1 : World} (hz : clsNx nx cl (cl.getD q 0) x = z) (hs : cl.getD s 0 = z) (hsn : s < ac.length) (hm : z ∉ st'.map fun s => cl.getD s 0) (hg : w0.heap.size ≤ gr)
  (hup : IdxMap wm gm (((st'.map fun s => cl.getD s 0) ++ [z]).map encN)) (hgr : wr.grownBy wm (some gm)) (hgs : wm.heap.size = wr.heap.size)
  (hk1 : Kept wm w1 (fun k => vS.ownBlock = some k)) (ho1 : w1.ownsRow w0.heap.size 3 1 vS' (st'.length + 1) ((natL st').map (Value.int .i64) ++ [.int .i64 (s : Int)])) (hmv : Moved wm vS vS') :
  Blk w1 gr 3 (rangeC L fun y => if y < x then Value.int .i64 (posL (st'.map fun s => cl.getD s 0) (clsNx nx cl (cl.getD q 0) y) : Int) else .int .i64 0) ∧
  QuoJ w0 (w1.setCell ⟨gr, x, none⟩ (.int .i64 (st'.length : Int))) g2 g4 g5 gm c2 L nx cl ac i q gr (x + 1) st (st' ++ [s]) vS' vN vA ws := by
 obtain ⟨hQ, hall⟩ := h.mem.addS (kv := z) (s := s) hup hgr hgs hk1 ho1 hmv
 have hb1 := h.blk.kept hall (by
  rintro (e | e)
  ·exact blk_map_ne h.blk h.mem.map e.symm
  ·exact h.sep e)
 have hmap : ((st' ++ [s]).map fun s => cl.getD s 0) = (st'.map fun s => cl.getD s 0) ++ [z] := by simp [← hs]
 have hsep : vS'.ownBlock ≠ some gr := fun e => by
  rcases hmv with hh | ⟨g', hh, hlt⟩
  ·exact h.sep (by rw [← hh]; exact e)
  ·rw [e] at hh
   have := Option.some.inj hh
   have := h.blk.lt
   omega
 rw [← hmap] at hQ
 have hk := (Kept.refl w1 (fun k => k = gr)).setCell (p := ⟨gr, x, none⟩) (fun _ => rfl) (.int .i64 (st'.length : Int))
 refine ⟨hb1, hQ.other (fun _ h => h) hsep hb1 hg hk, ?_, h.pre.trans (List.prefix_append _ _), fun y hy => ?_, hsep, posl_fill (k := st'.map fun s => cl.getD s 0) (fun y hy => ?_) ?_ hb1⟩
 ·rw [hmap, rowL_succ, ← h.eq, hz, meet_new hm]
 ·rcases List.mem_append.1 hy with hy | hy
  ·exact h.lt y hy
  ·rw [List.mem_singleton.1 hy]; exact hsn
 ·rw [hmap]
  refine pos_pre (List.prefix_append _ _) ?_
  rw [h.eq]
  exact rowL_has _ _ hy
 ·rw [hmap, hz, pos_new hm, List.length_map]
end
theorem quotient_own {w : World} {v : Value} {L c B : Nat} {A : Option Addr} {t : List (List Nat)} {ac : List Bool} {cl : List Nat} (h : IsDF w w.heap.size v t ac) (hok : DOK L t ac) (hcl : Sl w B 1 encI A (natL cl)) (hB : B ≤ w.heap.size) (hW : ClsW L ac.length (dnx t) (dac ac) cl) (hL : L ≤ 8) (hn : ac.length ≤ 250000) :
  Calls Tryz.prog 57 #[v, .slice A ac.length c] w (Ret fun r w' => Below w.heap.size w w' ∧ ∃ st : List Nat, (∀ s ∈ st, s < ac.length) ∧ st.length ≤ ac.length ∧ Disc L (clsNx (dnx t) cl) (cl.getD 0 0) (st.map fun s => cl.getD s 0) ∧ OwnDF w' w.heap.size r (rowsG L (clsNx (dnx t) cl) (st.map fun s => cl.getD s 0) st.length) (st.map (dac ac))) := by
 obtain ⟨A1, c1, A2, c2, rfl, h1, h2⟩ := h
 obtain ⟨k0, hk0⟩ := get_lt (l := cl) (i := 0) (by rw [hW.len]; exact hok.pos)
 obtain ⟨bc, oc, rfl, hbc, hcc0⟩ := sl_natat hcl hk0
 obtain ⟨g2, g4, g5, gs, gm, w1, w2, w3, w4, w5, w6, hg2, hg4, hg5, hgs, hw1, hw2, hw3, hw4, hw5, hw6, hb04, hQ⟩ := quo_mem w #[.slice A1 t.length c1, .slice A2 ac.length c2] k0
 subst hg2 hg4 hg5 hgs
 have htl := hok.len
 rw [htl] at hw1 hQ ⊢
 have hk0' : cl.getD 0 0 = k0 := getD_some hk0
 have hI0 := hide (show QuoI w w6 w.heap.size w1.heap.size w2.heap.size gm #[.slice A1 ac.length c1, .slice A2 ac.length c2] L (dnx t) cl ac 0 [0] (.slice (some ⟨w5.heap.size, 0, none⟩) 1 1) sn0 sn0 [] from by
  refine ⟨?_, ?_, fun s hs => by rw [List.mem_singleton.1 hs]; exact hok.pos⟩
  ·simp only [List.map_cons, List.map_nil, hk0']
   exact hQ
  ·exact .start)
 have hcc4 : w4.cell? ⟨bc, oc, none⟩ = some (.int .i64 (k0 : Int)) := (hb04.cell (by show bc < _; omega)).trans hcc0
 have hcq := hQ.b5.lt
 obtain ⟨n, hne⟩ : ∃ n, n = ac.length := ⟨_, rfl⟩
 have hnH := hide hne
 have hn9 : n ≤ 250000 := by omega
 have hn0 : 0 < n := by have := hok.pos; omega
 have h1H := hide h1
 have h2H := hide h2
 have hokH := hide hok
 have hclH := hide hcl
 have hWH := hide hW
 have hMH := hide (fun q x (hq : q < ac.length) (hx : x < L) => hok.lt hq hx)
 rw [← hne] at hw1 hI0 ⊢
 clear h1 h2 hne hok hcl htl hW hQ hk0 hk0' hcc0 hn
 go_enter Tryz.func57, Tryz.ntmps57
 go_wp2_with fail
 go_loopw [7, 8] (fun vv ii wr => ∃ (i : Nat) (st : List Nat) (vN vA : Value) (ws : List Value), ii = .int .i64 (i : Int) ∧ i ≤ n ∧ Hid (QuoI w wr w.heap.size w1.heap.size w2.heap.size gm #[.slice A1 n c1, .slice A2 n c2] L (dnx t) cl ac i st vv vN vA ws)) (fun _ ii _ => n - (intOf ii).toNat)
 case atStart => exact ⟨0, [0], _, _, _, rfl, Nat.zero_le _, hI0⟩
 case round =>
  obtain ⟨i, st, vN, vA, ws, rfl, hi, hI⟩ := hrel
  have hII := hI.out
  have hstl := hII.len hWH.out
  have hstn : st.length ≤ n := by rw [hnH.out]; exact hstl
  obtain ⟨AS, cS, rfl⟩ := slice_of_own hII.mem.sts
  by_cases hlt : i < st.length
  ·obtain ⟨q, hq⟩ := get_lt hlt
   have hqn := hII.lt q (List.mem_of_getElem? hq)
   obtain ⟨gS, cS', e, hcS⟩ := own_get hII.mem.sts (map_get (f := Value.int .i64) (map_get (f := fun x : Nat => (x : Int)) hq))
   cases e
   obtain ⟨b, hb⟩ := get_lt (l := ac) (i := q) hqn
   obtain ⟨ba, oa, rfl, hba, hca0⟩ := sl_boolat h2H.out hb
   have hca : wr.cell? ⟨ba, oa + q, none⟩ = some (.bool b) := (hII.mem.below.cell hba).trans hca0
   obtain ⟨bn, on, Ar, cr, row, rfl, hbn, hcn0, hrow, hrl, hrS, hrv⟩ := df_row h1H.out hokH.out hqn
   obtain ⟨AA, cA, rfl⟩ := slice_of_own hII.mem.acc
   have hla : ((st.take i).map (dac ac)).length = i := by simp; omega
   have hc2r := hII.mem.b2.cell
   have hc5 := hII.mem.b5.cell
   have hacc := hII.mem.acc
   rw [hla] at hc5 hacc
   have hsz := hII.mem.below.size
   have hdb := hide (show dac ac q = b from getD_some hb)
   have hqn2 : q < n := by rw [hnH.out]; exact hqn
   have hqH := hide hq
   have hrSH := hide hrS
   have hrvH := hide hrv
   have hrlH := hide hrl
   have hlaH := hide hla
   have hcn0H := hide hcn0
   clear hII hq hb hca0 hrow hrS hrv hrl hla hcn0
   go_wp2_with fail
   refine Reg.cP [0, 1, 0, 4, 0, 28, 60, 124, 255, 511, 1023] ?_
   go_wp2_with (
    at_builtin
    refine wpList_app_new (w := wr.drew) row4 rfl _ _ rfl w.heap.size (.slice AA i cA) i _ rfl hacc [.bool b] 1 rfl rfl (by simp [Value.oneCell']) (by omega) hsz ?_
    intro g' cap' w7 hown7 hk7 hmv7 hg7
    have hQd := hI.out.mem.keep (drewB wr)
    rw [hlaH.out] at hQd
    have hQ8 := hQd.addA hk7 (by rw [hlaH.out]; exact hown7)
    have hb57 := hQd.b5.kept hk7 (own_blk_ne hQd.acc hQd.b5 (by decide))
    have hc57 := hb57.cell
    have hf57 := hb57.frozen 1
    have hl57 := hb57.lt
    have hc28 := hQ8.b2.cell
    have hcn8 := (hQ8.below.cell (p := ⟨bn, on + q, none⟩) hbn).trans hcn0H.out
    obtain ⟨w8, hw8⟩ : ∃ w8, w7.setCell ⟨w2.heap.size, 1, none⟩ (.slice (some ⟨g', 0, none⟩) (i + 1) cap') = w8 := ⟨_, rfl⟩
    rw [hw8] at hQ8 hc28 hcn8
    obtain ⟨gr, w9, hmk9, hbl9, hb9, hgr9⟩ := mk_ints w8 L (by omega)
    have hcn9 := (hb9.cell (p := ⟨bn, on + q, none⟩) (by have := hQ8.below.size; show bn < _; omega)).trans hcn8
    have hc29 := (hQ8.b2.below hb9).cell
    rw [rangeC_rep] at hbl9
    have hJ0 := hide (show QuoJ w w9 w.heap.size w1.heap.size w2.heap.size gm #[.slice (some ⟨bn, on, none⟩) n c1, .slice (some ⟨ba, oa, none⟩) n c2] L (dnx t) cl ac i q gr 0 st st (.slice (some ⟨gS, 0, none⟩) st.length cS) vN (.slice (some ⟨g', 0, none⟩) (i + 1) cap') ws from by
     refine ⟨?_, rfl, List.prefix_refl _, hI.out.lt, fun e => ?_, ?_⟩
     ·rw [take_snoc hqH.out, List.map_append]
      have := (hQ8.weak (N' := fun g => g ≠ gr) (fun g hg _ e => by omega)).keep hb9
      rw [← hdb.out] at this
      exact this
     ·have := own_lt hQ8.sts e; omega
     ·rw [rangeC_congr (g := fun _ => Value.int .i64 0) (fun y _ => by rw [if_neg (by omega)])]
      exact hbl9)
    have hs9 := hQ8.below.size
    have hg29 : w.heap.size ≤ gr := by omega
    clear hQd hQ8 hown7 hk7 hmv7 hb57 hbl9)
   go_loopw [7, 54] (fun vv ii wz => ∃ (x : Nat) (st' : List Nat), ii = .int .i64 (x : Int) ∧ x ≤ L ∧ Hid (QuoJ w wz w.heap.size w1.heap.size w2.heap.size gm #[.slice (some ⟨bn, on, none⟩) n c1, .slice (some ⟨ba, oa, none⟩) n c2] L (dnx t) cl ac i q gr x st st' vv vN (.slice (some ⟨g', 0, none⟩) (i + 1) cap') ws)) (fun _ ii _ => L - (intOf ii).toNat)
   case atStart => exact ⟨0, st, rfl, Nat.zero_le _, hJ0⟩
   case round =>
    obtain ⟨x, st', rfl, hx, hJ⟩ := hrel
    have hJJ := hJ.out
    have hnd := hI.out.exp.inv.nodup
    have hstl' := hJJ.len hnd hWH.out
    obtain ⟨AS', cS2, rfl⟩ := slice_of_own hJJ.mem.sts
    by_cases hxL : x < L
    ·obtain ⟨y, hy⟩ := get_lt (l := row) (i := x) (by rw [hrlH.out]; exact hxL)
     obtain ⟨br, or', rfl, hbr, hcr0⟩ := sl_natat hrSH.out hy
     obtain ⟨hyn, hyd⟩ := hrvH.out x y hy
     obtain ⟨z, hz⟩ := get_lt (l := cl) (i := y) (by rw [hWH.out.len]; exact hyn)
     obtain ⟨hbc2, hcz0⟩ := sl_natcell hclH.out hz
     have hcy : wr.cell? ⟨br, or' + x, none⟩ = some (.int .i64 (y : Int)) := (hJJ.mem.below.cell hbr).trans hcr0
     have hcz : wr.cell? ⟨bc, oc + y, none⟩ = some (.int .i64 (z : Int)) := (hJJ.mem.below.cell (by show bc < _; omega)).trans hcz0
     have hyl : y < n := by rw [hnH.out]; exact hyn
     have hzd : clsNx (dnx t) cl (cl.getD q 0) x = z := by
      rw [hWH.out.nxE hMH.out hqn hxL, hyd]
      exact getD_some hz
     have hzg : cl.getD y 0 = z := getD_some hz
     have hmap := hJJ.mem.map
     have hlk := run_idx_lookup keyN3 Tryz.underlying136 zero3 hmap z
     simp only [encN] at hlk
     have hcg : wr.cell? ⟨gr, x, none⟩ = some (.int .i64 0) := by rw [hJJ.blk.cell, rangeC_get _ hxL, if_neg (by omega)]
     have hfg := hJJ.blk.frozen x
     have hlg := hJJ.blk.lt
     have hszJ := hJJ.mem.below.size
     by_cases hm : z ∈ st'.map fun s => cl.getD s 0
     ·have hold := hide (hJJ.old hzd hm hg29)
      simp only [hm, if_true, decide_true] at hlk
      clear hJJ hnd hy hcr0 hz hcz0 hbc2 hzd hmap hm hzg hyd
      go_wp2_with fail
      exact ⟨⟨x + 1, st', by go_num, by omega, hold⟩, by simp [intOf]; omega⟩
     ·simp only [hm, if_false, decide_false] at hlk
      obtain ⟨wm, hup, hmm, hgm', hsm⟩ := run_idx_store keyN3 Tryz.underlying136 hmap z hm
      simp only [encN, List.length_map] at hup
      have hkg : Kept wr wm (fun k => gm = k) := (Kept.of_grown hgm').mono fun b _ e => Option.some.inj e
      have hsts := hkg.ownsRow hJJ.mem.sts fun g hg e => own_map_ne hJJ.mem.sts hmap (by rw [hg, e])
      have hszm : w.heap.size ≤ wm.heap.size := by omega
      have hst9 : st'.length ≤ 250000 := by have := hnH.out; omega
      have hzdH := hide hzd
      have hzgH := hide hzg
      have hmH := hide hm
      have hmmH := hide hmm
      have hgmH := hide hgm'
      have hsmH := hide hsm
      clear hJJ hnd hy hcr0 hz hcz0 hbc2 hzd hmap hm hzg hyd hmm hgm' hsm hkg
      go_wp2_with (
       at_builtin
       refine wpList_app_new (w := wm) row3 rfl _ _ rfl w.heap.size (.slice AS' st'.length cS2) st'.length _ rfl hsts [.int .i64 (y : Int)] 1 rfl rfl (by simp [Value.oneCell']) (by omega) hszm ?_
       intro ga capa wa howna hka hmva hga
       obtain ⟨hblka, hnew⟩ := hJ.out.new hzdH.out hzgH.out hyn hmH.out hg29 hmmH.out hgmH.out hsmH.out hka howna hmva
       have hcga : wa.cell? ⟨gr, x, none⟩ = some (.int .i64 0) := by rw [hblka.cell, rangeC_get _ hxL, if_neg (by omega)]
       have hfga := hblka.frozen x
       have hlga := hblka.lt
       have hnewH := hide hnew
       clear hnew hblka howna hka hmva)
      exact ⟨⟨x + 1, st' ++ [y], by go_num, by omega, hnewH⟩, by simp [intOf]; omega⟩
    ·obtain rfl : x = L := by omega
     obtain ⟨AN, cN, rfl⟩ := slice_of_own hJJ.mem.nxt
     have hik : i ≤ (st.map fun s => cl.getD s 0).length := by rw [List.length_map]; omega
     have htl := rowsG_len (L := x) (δ := clsNx (dnx t) cl) hik
     have hnx := hJJ.mem.nxt
     have hc5x := hJJ.mem.b5.cell
     rw [htl] at hnx hc5x
     obtain ⟨rw', hrw⟩ : ∃ rw', rw' = (List.range x).map fun y => posL (st'.map fun s => cl.getD s 0) (clsNx (dnx t) cl (cl.getD q 0) y) := ⟨_, rfl⟩
     have hrwl : rw'.length = x := by rw [hrw]; simp
     have hownr : wr.ownsRow w.heap.size 3 1 (.slice (some ⟨gr, 0, none⟩) rw'.length x) rw'.length ((natL rw').map (Value.int .i64)) := by
      have := own_of_blk hJJ.blk hg29 (rangeC_size _ _) (by omega)
      rw [hrwl]
      have e : (rangeC x fun y => if y < x then Value.int .i64 (posL (st'.map fun s => cl.getD s 0) (clsNx (dnx t) cl (cl.getD q 0) y) : Int) else .int .i64 0).toList = (natL rw').map (Value.int .i64) := by
       rw [hrw]
       simp only [rangeC, natL, List.map_map]
       exact List.map_congr_left fun y hy => by rw [if_pos (List.mem_range.1 hy)]; rfl
      rw [e] at this
      exact this
     have hszJ := hJJ.mem.below.size
     have hrwH := hide hrw
     have hrwlH := hide hrwl
     have hownrH := hide hownr
     have htlH := hide htl
     clear hJJ hrw hrwl hownr htl hik hnd
     go_wp2_with (
      at_builtin
      refine wpList_app_new (w := wr) row22 rfl _ _ rfl w.heap.size (.slice AN i cN) i _ rfl hnx [.slice (some ⟨gr, 0, none⟩) x x] 1 rfl rfl (by simp [Value.oneCell']) (by omega) hszJ ?_
      intro ga capa wa howna hka hmva hga
      have hka2 := hka
      rw [← htlH.out] at hka2
      have hb5a := hJ.out.mem.b5.kept hka2 (own_blk_ne hJ.out.mem.nxt hJ.out.mem.b5 (by decide))
      have hR := hJ.out.mem.addR (vN' := .slice (some ⟨ga, 0, none⟩) (i + 1) capa) hownrH.out hJ.out.sep hka2 (by rw [htlH.out, hrwlH.out]; exact howna)
      have hcga := hb5a.cell
      rw [htlH.out] at hcga
      have hfga := hb5a.frozen 0
      have hlga := hb5a.lt
      have hRH := hide hR
      clear hR hb5a howna hka hka2 hmva)
     have htk : st'.take (i + 1) = st.take (i + 1) := by
      obtain ⟨u, hu⟩ := hJ.out.pre
      rw [← hu, List.take_append_of_le_length (by omega)]
     have hpk : (st.map fun s => cl.getD s 0) <+: (st'.map fun s => cl.getD s 0) := by
      obtain ⟨u, hu⟩ := hJ.out.pre
      rw [← hu, List.map_append]
      exact List.prefix_append _ _
     have hqk : (st.map fun s => cl.getD s 0)[i]? = some (cl.getD q 0) := map_get (f := fun s => cl.getD s 0) hqH.out
     refine ⟨⟨i + 1, st', .slice (some ⟨ga, 0, none⟩) (i + 1) capa, .slice (some ⟨g', 0, none⟩) (i + 1) cap', ws ++ [.slice (some ⟨gr, 0, none⟩) rw'.length x], by go_num, by omega, ?_⟩, by simp [intOf]; omega⟩
     refine hide ⟨?_, ?_, hJ.out.lt⟩
     ·have := hRH.out
      rw [htk, rowsG_succ (prefix_get hpk hqk), rowsG_ext hI.out.exp hpk, ← hrwH.out]
      exact this
     ·rw [hJ.out.eq]
      exact .row hI.out.exp hqk
  ·have hle := hII.exp.inv.le
   rw [List.length_map] at hle
   obtain rfl : i = st.length := by omega
   obtain ⟨AN, cN, rfl⟩ := slice_of_own hII.mem.nxt
   obtain ⟨AA, cA, rfl⟩ := slice_of_own hII.mem.acc
   have hln : (rowsG L (clsNx (dnx t) cl) (st.map fun s => cl.getD s 0) st.length).length = st.length := rowsG_len (by simp)
   have hla : ((st.take st.length).map (dac ac)).length = st.length := by simp
   rw [hln, hla] at hII
   have hc5 := hII.mem.b5.cell
   have hb4 := hII.mem.b4
   have hf4 := hb4.frozen
   have hl4 := hb4.lt
   have hc4 := hb4.cell
   obtain ⟨wF, hwF, hBF, hKF⟩ := set2_facts hb4 (.slice AN st.length cN) (.slice AA st.length cA)
   have hfin := hide (hII.mem.finO (hKF.mono fun _ _ e => .inl e))
   have hbF := hide (hII.mem.below.trans (hKF.below hII.mem.below.size fun b hb e => by have := hII.mem.ge; omega))
   have hBFc := hBF.cell
   have hwH := hide hwF
   have hexp := hide hII.exp
   have hltH := hide hII.lt
   clear hII hb4 hBF hKF hwF hln hla hI
   go_wp2_with fail
   change bodyPost _ _ _ .ret _ (set2 wr w1.heap.size (.slice AN st.length cN) (.slice AA st.length cA))
   rw [hwH.out]
   have hf := hfin.out
   rw [List.take_length] at hf
   refine bodyPost_ret (v := .agg #[.slice AN st.length cN, .slice AA st.length cA]) (by simp [results, Tryz.results57, go_sem, hBFc]) rfl ⟨hbF.out, st, by rw [hnH.out]; exact hltH.out, hstn, ?_, hf⟩
   unfold Disc
   rw [List.length_map]
   exact hexp.out
theorem quotient_any {w : World} {v : Value} {L c B : Nat} {A : Option Addr} {t : List (List Nat)} {ac : List Bool} {cl : List Nat} (h : IsDF w w.heap.size v t ac) (hok : DOK L t ac) (hcl : Sl w B 1 encI A (natL cl)) (hB : B ≤ w.heap.size) (hW : ClsW L ac.length (dnx t) (dac ac) cl) (hL : L ≤ 8) (hn : ac.length ≤ 250000) :
  Calls Tryz.prog 57 #[v, .slice A ac.length c] w (Ret fun r w' => Below w.heap.size w w' ∧ ∃ st : List Nat, (∀ s ∈ st, s < ac.length) ∧ st.length ≤ ac.length ∧ Disc L (clsNx (dnx t) cl) (cl.getD 0 0) (st.map fun s => cl.getD s 0) ∧ (∀ w'', Kept w' w'' (fun k => k < w.heap.size) → IsDF w'' w''.heap.size r (rowsG L (clsNx (dnx t) cl) (st.map fun s => cl.getD s 0) st.length) (st.map (dac ac))) ∧ OwnDF w' w.heap.size r (rowsG L (clsNx (dnx t) cl) (st.map fun s => cl.getD s 0) st.length) (st.map (dac ac))) := by
 refine Calls.ret (quotient_own h hok hcl hB hW hL hn) ?_
 rintro r w' ⟨hb, st, h1, h2, h3, h4⟩
 refine ⟨hb, st, h1, h2, h3, fun w'' hk => (h4.kept hk (fun g e _ => e) (Nat.le_refl _)).read (fun r hr => ?_) ?_ ?_, h4⟩
 ·unfold rowsG at hr
  obtain ⟨s, _, rfl⟩ := List.mem_map.1 hr
  simp; omega
 ·rw [rowsG_len (by simp)]; omega
 ·simp; omega
end Go.Proofs.YtakpmdmjbgipiaaGreatDoor
namespace Go.Proofs.YtakpmdmjbgipiaaGreatDoor
open Go.RowKit
set_option maxHeartbeats 16000000
set_option maxRecDepth 100000
theorem minimal_own {w : World} {v : Value} {L : Nat} {t : List (List Nat)} {ac : List Bool} (h : IsDF w w.heap.size v t ac) (hok : DOK L t ac) (hL : L ≤ 8) (hn : ac.length ≤ 250000) (hT : PowT w) :
  Calls Tryz.prog 26 #[v] w (Ret fun r w' => Below w.heap.size w w' ∧ ∃ cl st : List Nat, ClsW L ac.length (dnx t) (dac ac) cl ∧ (∀ s ∈ st, s < ac.length) ∧ st.length ≤ ac.length ∧ Disc L (clsNx (dnx t) cl) (cl.getD 0 0) (st.map fun s => cl.getD s 0) ∧ (∀ w'', Kept w' w'' (fun k => k < w.heap.size) → IsDF w'' w''.heap.size r (rowsG L (clsNx (dnx t) cl) (st.map fun s => cl.getD s 0) st.length) (st.map (dac ac))) ∧ OwnDF w' w.heap.size r (rowsG L (clsNx (dnx t) cl) (st.map fun s => cl.getD s 0) st.length) (st.map (dac ac))) := by
 have hDF := hide h
 obtain ⟨A1, c1, A2, c2, rfl, h1, h2⟩ := h
 obtain ⟨w1, hw1, hb1, hB1, hk1⟩ := box_blk w #[.slice A1 t.length c1, .slice A2 ac.length c2] 52
 obtain ⟨w2, hw2, hb2, hB2, hk2⟩ := box_blk w1 #[sn0, sn0] 52
 have hs1 := hb1.size
 have hb02 : Below w.heap.size w w2 := hb1.trans (hb2.mono hs1)
 have hs2 := hb02.size
 have hD := hide (hB1.below hb2)
 have hR := hide hB2
 have hM := hide (fun q x (hq : q < ac.length) (hx : x < L) => hok.lt hq hx)
 have hlt := hB1.lt
 have hout : Calls Tryz.prog 55 #[.agg #[.slice A1 t.length c1, .slice A2 ac.length c2]] w2 (Ret fun r w' => Below w2.heap.size w2 w' ∧ ∃ A c, r = .tuple #[.slice A ac.length c, .int .i64 ((dd ac).length : Int)] ∧ Sl w' w'.heap.size 1 encI A (natL (cRow ac))) := outputs_any (hDF.out.keep (fun p hp => hb02.cell hp) hs2) hn
 have hspl : ∀ (wx : World) (A : Option Addr) (c r cnt : Nat) (cl : List Nat), Below w.heap.size w wx → Sl wx wx.heap.size 1 encI A (natL cl) → ClsAt L ac.length (dnx t) (dac ac) r cl cnt → Calls Tryz.prog 56 #[.agg #[.slice A1 t.length c1, .slice A2 ac.length c2], .slice A ac.length c] wx (Ret fun r' w' => Below wx.heap.size wx w' ∧ ∃ (A' : Option Addr) (c' : Nat) (cl' : List Nat) (cnt' : Nat), r' = .tuple #[.slice A' ac.length c', .int .i64 (cnt' : Int)] ∧ Sl w' w'.heap.size 1 encI A' (natL cl') ∧ ClsAt L ac.length (dnx t) (dac ac) (r + 1) cl' cnt') := fun wx A c r cnt cl hb hS hC => by
  refine Calls.ret (split_any (hDF.out.keep (fun p hp => hb.cell hp) hb.size) hok hS (Nat.le_refl _) hC.len (fun x hx => by have := (hC.mem x).1 hx; have := hC.le; omega) hL hn (hT.below hb)) ?_
  rintro r' w' ⟨hb', A', c', e, hS'⟩
  exact ⟨hb', A', c', _, _, e, hS', split_cls (fun q x hq hx => hok.lt hq hx) hC⟩
 have hquo : ∀ (wx : World) (A : Option Addr) (c : Nat) (cl : List Nat), Below w.heap.size w wx → Sl wx wx.heap.size 1 encI A (natL cl) → ClsW L ac.length (dnx t) (dac ac) cl → Calls Tryz.prog 57 #[.agg #[.slice A1 t.length c1, .slice A2 ac.length c2], .slice A ac.length c] wx (Ret fun r w' => Below wx.heap.size wx w' ∧ ∃ st : List Nat, (∀ s ∈ st, s < ac.length) ∧ st.length ≤ ac.length ∧ Disc L (clsNx (dnx t) cl) (cl.getD 0 0) (st.map fun s => cl.getD s 0) ∧ (∀ w'', Kept w' w'' (fun k => k < wx.heap.size) → IsDF w'' w''.heap.size r (rowsG L (clsNx (dnx t) cl) (st.map fun s => cl.getD s 0) st.length) (st.map (dac ac))) ∧ OwnDF w' wx.heap.size r (rowsG L (clsNx (dnx t) cl) (st.map fun s => cl.getD s 0) st.length) (st.map (dac ac))) := fun wx A c cl hb hS hW =>
  quotient_any (hDF.out.keep (fun p hp => hb.cell hp) hb.size) hok hS (Nat.le_refl _) hW hL hn
 have hC0 := outs_cls L (dnx t) ac
 have hC0H := hide hC0
 obtain ⟨n, hne⟩ : ∃ n, n = ac.length := ⟨_, rfl⟩
 have hnH := hide hne
 rw [← hne] at hw1 hD hout hspl hquo hn ⊢
 have hsplH := hide hspl
 have hquoH := hide hquo
 clear hspl hquo
 clear h1 h2 hk1 hk2 hb1 hb2 hB1 hB2 hne hok hT hC0
 go_enter Tryz.func26, Tryz.ntmps26
 have hc2 := hD.out.cell
 go_wp2_with fail
 refine Calls.ret hout ?_
 rintro r w3 ⟨hb3, A, c, rfl, hS3⟩
 have hb03 := hb02.trans (hb3.mono hs2)
 have hD3 := hide (hD.out.below hb3)
 have hR3 := hide (hR.out.below hb3)
 have hS3H := hide hS3
 clear hout hS3 hc2 hb02 hb3 hD hR
 go_wp2_with fail
 go_loopw [3, 4] (fun vv cc wr => ∃ (r cnt c : Nat) (A : Option Addr) (cl : List Nat), vv = .slice A n c ∧ cc = .int .i64 (cnt : Int) ∧ cnt ≤ n ∧ Below w.heap.size w wr ∧ Hid (Blk wr w.heap.size 52 #[.slice A1 t.length c1, .slice A2 n c2]) ∧ Hid (Blk wr w1.heap.size 52 #[sn0, sn0]) ∧ Hid (Sl wr wr.heap.size 1 encI A (natL cl)) ∧ Hid (ClsAt L n (dnx t) (dac ac) r cl cnt)) (fun _ cc _ => n - (intOf cc).toNat)
 case atStart => exact ⟨0, (dd ac).length, c, A, cRow ac, rfl, rfl, by have := hC0H.out.le; have := hnH.out; omega, hb03, hD3, hR3, hS3H, by rw [hnH.out]; exact hC0H⟩
 case round =>
  obtain ⟨r, cnt, c, A, cl, rfl, rfl, hcn, hBr, hDr, hRr, hSr, hCr⟩ := hrel
  have hcr := hDr.out.cell
  go_wp2_with fail
  refine Calls.ret (hsplH.out _ _ _ _ _ _ hBr hSr.out hCr.out) ?_
  rintro r' w4 ⟨hb4, A', c', cl', cnt', rfl, hS4, hC4⟩
  have hBr4 := hBr.trans (hb4.mono hBr.size)
  have hD4 := hide (hDr.out.below hb4)
  have hR4 := hide (hRr.out.below hb4)
  have hle := hC4.le
  have hgrow := hCr.out.grow hC4
  have hS4H := hide hS4
  have hC4H := hide hC4
  have hSr4 := hide (hSr.out.keep (w' := w4) (fun p hp => hb4.cell hp) hb4.size)
  have hc4 := hD4.out.cell
  clear hb4 hS4 hC4
  by_cases he : cnt' = cnt
  ·subst he
   have hW : ClsW L n (dnx t) (dac ac) cl := hCr.out.atRest (fun q x hq hx => by
    rw [hnH.out] at hq ⊢
    exact hM.out q x hq hx) hC4H.out
   have hWH := hide hW
   have hs4 := hBr4.size
   clear hgrow hle hW
   go_wp2_with fail
   refine Calls.ret (hquoH.out _ _ _ _ hBr4 hSr4.out hWH.out) ?_
   rintro d w5 ⟨hb5, st, hst, hsl, hDi, hDF5, hOw5⟩
   obtain ⟨A5, c5, A6, c6, rfl, -, -⟩ := hDF5 w5 (Kept.refl _ _)
   have hR5 := hR4.out.below hb5
   have hf5 := hR5.frozen
   have hl5 := hR5.lt
   have hc5 := hR5.cell
   obtain ⟨wF, hwF, hBF, hKF⟩ := set2_facts hR5 (.slice A5 (rowsG L (clsNx (dnx t) cl) (st.map fun s => cl.getD s 0) st.length).length c5) (.slice A6 (st.map (dac ac)).length c6)
   have hBFc := hBF.cell
   have hwH := hide hwF
   have hl4 := hR4.out.lt
   have hbF := hide ((hBr4.trans (hb5.mono hs4)).trans (hKF.below (by have := hb5.size; omega) fun b hb e => by omega))
   have hfin := hide (fun w'' (hk : Kept wF w'' (fun k => k < w.heap.size)) => hDF5 w'' ((hKF.mono (fun b _ e => by omega)).trans hk (fun b _ e => by omega)))
   have hown := hide (hOw5.kept (base' := w.heap.size) hKF (fun g (e : g = _) _ => by omega) (by omega))
   have hDi' := hide hDi
   clear hDF5 hOw5 hR5 hBF hKF hb5 hDi
   unfold set2 at hwF
   obtain ⟨lr, hlr⟩ : ∃ lr, lr = (rowsG L (clsNx (dnx t) cl) (st.map fun s => cl.getD s 0) st.length).length := ⟨_, rfl⟩
   obtain ⟨la, hla⟩ : ∃ la, la = (st.map (dac ac)).length := ⟨_, rfl⟩
   rw [← hlr, ← hla] at hwF hBFc hfin hown ⊢
   clear hlr hla
   go_wp2_with fail
   refine bodyPost_ret (v := .agg #[.slice A5 lr c5, .slice A6 la c6]) (by simp [results, Tryz.results26, go_sem, hBFc]) rfl ⟨hbF.out, cl, st, hWH.out, hst, hsl, hDi'.out, hfin.out, hown.out⟩
  ·have hne : ¬ (cnt' : Int) = (cnt : Int) := by omega
   have hcn' : cnt' ≤ n := hle
   clear he hle
   go_wp2_with fail
   exact ⟨⟨r + 1, cnt', c', A', cl', rfl, rfl, hcn', hBr4, hD4, hR4, hS4H, hC4H⟩, by simp [intOf]; omega⟩
theorem minimal_any {w : World} {v : Value} {L : Nat} {t : List (List Nat)} {ac : List Bool} (h : IsDF w w.heap.size v t ac) (hok : DOK L t ac) (hL : L ≤ 8) (hn : ac.length ≤ 250000) (hT : PowT w) :
  Calls Tryz.prog 26 #[v] w (Ret fun r w' => Below w.heap.size w w' ∧ ∃ cl st : List Nat, ClsW L ac.length (dnx t) (dac ac) cl ∧ (∀ s ∈ st, s < ac.length) ∧ st.length ≤ ac.length ∧ Disc L (clsNx (dnx t) cl) (cl.getD 0 0) (st.map fun s => cl.getD s 0) ∧ ∀ w'', Kept w' w'' (fun k => k < w.heap.size) → IsDF w'' w''.heap.size r (rowsG L (clsNx (dnx t) cl) (st.map fun s => cl.getD s 0) st.length) (st.map (dac ac))) := by
 refine Calls.ret (minimal_own h hok hL hn hT) ?_
 rintro r w' ⟨hb, cl, st, h1, h2, h3, h4, h5, -⟩
 exact ⟨hb, cl, st, h1, h2, h3, h4, h5⟩
end Go.Proofs.YtakpmdmjbgipiaaGreatDoor
namespace Go.Proofs.YtakpmdmjbgipiaaGreatDoor
open Go.RowKit
set_option maxHeartbeats 4000000
theorem rowsG_rowsOf (a : NF) (all : List (List Bool)) (i : Nat) : rowsOf a all i = rowsG a.L a.after all i := rfl
section
variable {S : Type} [DecidableEq S] {L : Nat} {δ : S → Nat → S} {s0 : S}
theorem rowsG_at {all : List S} {q : Nat} {s : S} (hq : all[q]? = some s) {x : Nat} (hx : x < L) : dnx (rowsG L δ all all.length) q x = posL all (δ s x) := by
 unfold dnx rowsG
 rw [List.take_length, getD_some (map_get hq), getD_some (map_get (List.getElem?_range hx))]
theorem rowsG_num {all : List S} {q x : Nat} (hq : q < all.length) (hx : x < L) : dnx (rowsG L δ all all.length) q x = numW δ all q x := by
 obtain ⟨s, hs⟩ := get_lt hq
 rw [rowsG_at hs hx]
 unfold numW
 rw [hs]
 rfl
theorem rowsG_dok {all : List S} (h : Disc L δ s0 all) {ac : List Bool} (hl : ac.length = all.length) : DOK L (rowsG L δ all all.length) ac := by
 have h0 : all.length ≠ 0 := fun e => by
  have := h.run (w := []) (okW.nil L)
  rw [List.length_eq_zero_iff.1 e] at this
  simp at this
 refine ⟨by rw [rowsG_len (Nat.le_refl _), hl], by omega, fun r hr => ?_⟩
 unfold rowsG at hr
 rw [List.take_length] at hr
 obtain ⟨s, hs, rfl⟩ := List.mem_map.1 hr
 refine ⟨by simp, fun y hy => ?_⟩
 obtain ⟨x, hx, rfl⟩ := List.mem_map.1 hy
 rw [hl]
 exact posL_lt (h.closed hs (List.mem_range.1 hx))
end
theorem runW_congr {L n : Nat} {nx nx' : Nat → Nat → Nat} (hlt : ∀ q x, q < n → x < L → nx q x < n) (he : ∀ q x, q < n → x < L → nx' q x = nx q x) : ∀ (w : List Nat) (q : Nat), okW L w → q < n → runW nx' q w = runW nx q w
 | [], _, _, _ => rfl
 | x :: w, q, hw, hq => by
  have hx := hw x List.mem_cons_self
  show runW nx' (nx' q x) w = runW nx (nx q x) w
  rw [he q x hq hx]
  exact runW_congr hlt he w _ (fun y hy => hw y (List.mem_cons_of_mem _ hy)) (hlt q x hq hx)
theorem rowL_congr {S : Type} [DecidableEq S] {δ δ' : S → Nat → S} {s : S} {l : List S} : ∀ (k : Nat), (∀ x, x < k → δ' s x = δ s x) → rowL δ' s l k = rowL δ s l k
 | 0, _ => rfl
 | k + 1, h => by rw [rowL_succ, rowL_succ, rowL_congr k (fun x hx => h x (by omega)), h k (by omega)]
theorem exp_congr {S : Type} [DecidableEq S] {L : Nat} {δ δ' : S → Nat → S} {s0 : S} {i : Nat} {l : List S} (h : Exp L δ s0 i l) (he : ∀ s x, s ∈ l → x < L → δ' s x = δ s x) : Exp L δ' s0 i l := by
 induction h with
 | start => exact .start
 | @row i l s h1 hs ih =>
  have hp := rowL_pre (δ := δ) s l L
  have h2 := ih fun s' x hs' hx => he s' x (hp.subset hs') hx
  rw [← rowL_congr (δ := δ) (δ' := δ') L fun x hx => he s x (hp.subset (List.mem_of_getElem? hs)) hx]
  exact .row h2 hs
theorem Canon.congr {L n : Nat} {nx nx' : Nat → Nat → Nat} {acc acc' : Nat → Bool} {Λ Λ' : List Nat → Bool} (h : Canon L n nx acc Λ) (hx : ∀ q x, q < n → x < L → nx' q x = nx q x) (ha : ∀ q, q < n → acc' q = acc q) (hΛ : ∀ w, okW L w → Λ' w = Λ w) : Canon L n nx' acc' Λ' := by
 have hr : ∀ w, okW L w → runW nx' 0 w = runW nx 0 w := fun w hw => runW_congr (fun q x hq hx => h.lt hq hx) hx w 0 hw h.pos
 refine ⟨fun w hw => ?_, fun u v hu hv hz => ?_, ?_⟩
 ·rw [hr w hw, ha _ (h.run_lt hw), h.lang w hw, hΛ w hw]
 ·rw [hr u hu, hr v hv]
  exact h.sep u v hu hv fun z hzz => by rw [← hΛ _ (hu.app hzz), ← hΛ _ (hv.app hzz)]; exact hz z hzz
 ·exact exp_congr h.ord fun s x hs hx' => hx s x (List.mem_range.1 hs) hx'
structure CanT (L : Nat) (t : List (List Nat)) (ac : List Bool) (Λ : List Nat → Bool) : Prop where
 ok : DOK L t ac
 can : Canon L ac.length (dnx t) (dac ac) Λ
def langT (t : List (List Nat)) (ac : List Bool) (w : List Nat) : Bool := dac ac (runW (dnx t) 0 w)
theorem subs_lang {a : NF} {all : List (List Bool)} (h : Disc a.L a.after a.st all) {w : List Nat} (hw : okW a.L w) : langT (rowsOf a all all.length) (all.map a.has) w = a.lang w := by
 have hD := rowsG_dok (δ := a.after) h (ac := all.map a.has) (by simp)
 have h1 := h.num hw
 have h2 : runW (dnx (rowsOf a all all.length)) 0 w = runW (numW a.after all) 0 w := by
  have := runW_congr (L := a.L) (n := all.length) (nx := dnx (rowsG a.L a.after all all.length)) (nx' := numW a.after all) (fun q x hq hx => by have := hD.lt (by simpa using hq) hx; simpa using this) (fun q x hq hx => (rowsG_num hq hx).symm) w 0 hw (by have := hD.pos; simpa using this)
  exact this.symm
 unfold langT
 rw [h2]
 unfold dac
 rw [getD_some (map_get h1)]
 rfl
theorem min_canT {L : Nat} {t : List (List Nat)} {ac : List Bool} {cl st : List Nat} (hok : DOK L t ac) (hW : ClsW L ac.length (dnx t) (dac ac) cl) (hst : ∀ s ∈ st, s < ac.length) (hD : Disc L (clsNx (dnx t) cl) (cl.getD 0 0) (st.map fun s => cl.getD s 0)) :
  CanT L (rowsG L (clsNx (dnx t) cl) (st.map fun s => cl.getD s 0) st.length) (st.map (dac ac)) (langT t ac) := by
 have h1 := hW.canon (fun q x hq hx => hok.lt hq hx) hok.pos hst hD
 have h2 := rowsG_dok hD (ac := st.map (dac ac)) (by simp)
 rw [List.length_map] at h2
 refine ⟨h2, ?_⟩
 rw [List.length_map]
 refine h1.congr (fun q x hq hx => ?_) (fun q hq => ?_) (fun w hw => rfl)
 ·have := rowsG_num (L := L) (δ := clsNx (dnx t) cl) (all := st.map fun s => cl.getD s 0) (q := q) (x := x) (by simpa using hq) hx
  rw [List.length_map] at this
  exact this
 ·obtain ⟨s, hs⟩ := get_lt hq
  show (st.map (dac ac)).getD q false = _
  rw [getD_some (map_get hs), getD_some hs]
theorem CanT.congr {L : Nat} {t : List (List Nat)} {ac : List Bool} {Λ Λ' : List Nat → Bool} (h : CanT L t ac Λ) (hΛ : ∀ w, okW L w → Λ' w = Λ w) : CanT L t ac Λ' :=
 ⟨h.ok, h.can.congr (fun _ _ _ _ => rfl) (fun _ _ => rfl) hΛ⟩
theorem CanT.unique {L : Nat} {t t' : List (List Nat)} {ac ac' : List Bool} {Λ Λ' : List Nat → Bool} (h : CanT L t ac Λ) (h' : CanT L t' ac' Λ') (hΛ : ∀ w, okW L w → Λ w = Λ' w) : t = t' ∧ ac = ac' := by
 obtain ⟨hn, hx, ha⟩ := h.can.unique h'.can hΛ
 constructor
 ·apply List.ext_getElem?
  intro q
  by_cases hq : q < ac.length
  ·obtain ⟨r, hr⟩ := get_lt (l := t) (i := q) (by rw [h.ok.len]; exact hq)
   obtain ⟨r', hr'⟩ := get_lt (l := t') (i := q) (by rw [h'.ok.len, ← hn]; exact hq)
   rw [hr, hr']
   congr 1
   apply List.ext_getElem?
   intro x
   have l1 := (h.ok.row r (List.mem_of_getElem? hr)).1
   have l2 := (h'.ok.row r' (List.mem_of_getElem? hr')).1
   by_cases hxL : x < L
   ·obtain ⟨y, hy⟩ := get_lt (l := r) (i := x) (by omega)
    obtain ⟨y', hy'⟩ := get_lt (l := r') (i := x) (by omega)
    have := hx q x hq hxL
    unfold dnx at this
    rw [getD_some hr, getD_some hr', getD_some hy, getD_some hy'] at this
    rw [hy, hy', this]
   ·rw [List.getElem?_eq_none (by omega), List.getElem?_eq_none (by omega)]
  ·rw [List.getElem?_eq_none (by rw [h.ok.len]; omega), List.getElem?_eq_none (by rw [h'.ok.len, ← hn]; omega)]
 ·apply List.ext_getElem?
  intro q
  by_cases hq : q < ac.length
  ·obtain ⟨b, hb⟩ := get_lt hq
   obtain ⟨b', hb'⟩ := get_lt (l := ac') (i := q) (by omega)
   have := ha q hq
   unfold dac at this
   rw [getD_some hb, getD_some hb'] at this
   rw [hb, hb', this]
  ·rw [List.getElem?_eq_none (by omega), List.getElem?_eq_none (by omega)]
end Go.Proofs.YtakpmdmjbgipiaaGreatDoor
namespace Go.Proofs.YtakpmdmjbgipiaaGreatDoor
open Go.RowKit
set_option maxHeartbeats 16000000
set_option maxRecDepth 100000
theorem fm_len {E : Type} {p : Nat → E → Bool} (hp : ∀ s s' e, p s e = true → p s' e = true → s = s') (ls : List Nat) (hn : ls.Nodup) : ∀ es : List E, (ls.flatMap fun s => es.filter (p s)).length ≤ es.length
 | [] => by
  have : (ls.flatMap fun s => ([] : List E).filter (p s)) = [] := List.flatMap_eq_nil_iff.2 fun _ _ => rfl
  rw [this]
  exact Nat.le_refl _
 | e :: es => by
  have ih := fm_len hp ls hn es
  have h1 : ∀ ls : List Nat, ls.Nodup → (ls.flatMap fun s => (e :: es).filter (p s)).length ≤ (ls.flatMap fun s => es.filter (p s)).length + 1 ∧ ((∀ s ∈ ls, p s e = false) → (ls.flatMap fun s => (e :: es).filter (p s)).length ≤ (ls.flatMap fun s => es.filter (p s)).length) := by
   intro ls
   induction ls with
   | nil => simp
   | cons s ls ih =>
    intro hn
    obtain ⟨hs, hn'⟩ := List.nodup_cons.1 hn
    obtain ⟨i1, i2⟩ := ih hn'
    rw [List.flatMap_cons, List.flatMap_cons, List.length_append, List.length_append, List.filter_cons]
    by_cases hpe : p s e = true
    ·have hno : ∀ s' ∈ ls, p s' e = false := fun s' hs' => by
      rw [Bool.eq_false_iff]
      intro h
      exact hs (by rw [hp s s' e hpe h]; exact hs')
     have := i2 hno
     rw [if_pos hpe, List.length_cons]
     refine ⟨by omega, fun h => ?_⟩
     rw [h s List.mem_cons_self] at hpe
     cases hpe
    ·rw [if_neg hpe]
     refine ⟨by omega, fun h => ?_⟩
     have := i2 fun s' hs' => h s' (List.mem_cons_of_mem _ hs')
     omega
  have := (h1 ls hn).1
  rw [List.length_cons]
  omega
theorem setN_nodup (m : List Bool) : (setN m).Nodup := List.nodup_range.filter _
theorem WA.cat_len {a : WA} {m : List Bool} {x : Nat} (hm : m.length = a.n) (hx : x < a.L) : (a.nf.cat (setL m) x).length ≤ a.edges.length := by
 have e : a.nf.cat (setL m) x = ((setN m).flatMap fun s : Nat => a.edges.filter fun e => decide (e.frm = (s : Int)) && decide (e.letter = (x : Int))).map (·.to) := by
  unfold NF.cat
  rw [setL_nat, List.map_flatMap]
  unfold natL
  rw [List.flatMap_map]
  simp only [List.flatMap]
  congr 1
  refine List.map_congr_left fun s hs => ?_
  rw [Int.toNat_natCast, WA.nf_to a (setN_lt hm s hs) hx]
  rfl
 rw [e, List.length_map]
 refine fm_len (fun (s s' : Nat) e h1 h2 => ?_) _ (setN_nodup m) _
 simp only [Bool.and_eq_true, decide_eq_true_eq] at h1 h2
 omega
def CanRetO (w : World) (a : WA) (v : Value) (w' : World) : Prop :=
 Below w.heap.size w w' ∧ ((a.nf.Large 400 ∧ v = .tuple #[.agg #[sn0, sn0], .int .i64 4]) ∨
  (¬ a.nf.Large 400 ∧ ∃ t ac d, CanT a.L t ac a.lang ∧ ac.length ≤ 400 ∧ v = .tuple #[d, .int .i64 0] ∧ (∀ w'', Kept w' w'' (fun k => k < w.heap.size) → IsDF w'' w''.heap.size d t ac) ∧ OwnDF w' w.heap.size d t ac))
def CanRet (w : World) (a : WA) (v : Value) (w' : World) : Prop :=
 Below w.heap.size w w' ∧ ((a.nf.Large 400 ∧ v = .tuple #[.agg #[sn0, sn0], .int .i64 4]) ∨
  (¬ a.nf.Large 400 ∧ ∃ t ac d, CanT a.L t ac a.lang ∧ ac.length ≤ 400 ∧ v = .tuple #[d, .int .i64 0] ∧ ∀ w'', Kept w' w'' (fun k => k < w.heap.size) → IsDF w'' w''.heap.size d t ac))
theorem canonical_own {v : Value} {a : WA} {w : World} (h : IsWA w w.heap.size v a) (hin : a.In) (hS : 0 ≤ a.states ∧ a.states ≤ 200000) (hL : 0 ≤ a.letters ∧ a.letters ≤ 8) (he : a.edges.length ≤ 3000000) (hst : a.start.length ≤ 4000000) (hT : PowT w) :
  Calls Tryz.prog 44 #[v] w (Ret fun r w' => CanRetO w a r w') := by
 have hWA := hide h
 obtain ⟨A1, c1, A2, c2, A3, c3, rfl, h1, h2, h3, h4⟩ := h
 obtain ⟨w1, hw1, hb1, hB1, hk1⟩ := box_blk w #[.int .i64 a.letters, .int .i64 a.states, .slice A1 a.start.length c1, .slice A2 a.accept.length c2, .slice A3 a.edges.length c3] 28
 obtain ⟨w2, hw2, hb2, hB2, hk2⟩ := box_blk w1 #[sn0, sn0] 52
 have hs1 := hb1.size
 have hb02 : Below w.heap.size w w2 := hb1.trans (hb2.mono hs1)
 have hs2 := hb02.size
 have hc2 := (hB1.below hb2).cell
 have hl1 := hB1.lt
 have hR := hide hB2
 have hnet := network_any (hWA.out.keep (fun p hp => hb02.cell hp) hs2) hin hS hL he
 have hok := WA.nf_ok hin
 have hN : a.nf.n ≤ 200000 := by rw [a.nf_n]; unfold WA.n; omega
 have hLL : a.nf.L ≤ 8 := by show a.L ≤ 8; unfold WA.L; omega
 have hcat : ∀ m x, m.length = a.nf.n → x < a.nf.L → (a.nf.cat (setL m) x).length ≤ 4000000 := fun m x hm hx => by
  have := WA.cat_len (a := a) (hm.trans a.nf_n) hx
  omega
 have hsub := hide (fun (wx : World) (d : Value) (hb : Below w.heap.size w wx) (hI : IsNF wx wx.heap.size d a.nf) => subsets_any (k := 400) hI hok hN hLL (by omega) (hT.below hb) hst hcat)
 have hmin : ∀ (wx : World) (d : Value) (all : List (List Bool)), Below w.heap.size w wx → Disc a.nf.L a.nf.after a.nf.st all → all.length ≤ 400 → IsDF wx wx.heap.size d (rowsOf a.nf all all.length) (all.map a.nf.has) →
   Calls Tryz.prog 26 #[d] wx (Ret fun r w' => Below wx.heap.size wx w' ∧ ∃ t ac, CanT a.L t ac a.lang ∧ ac.length ≤ 400 ∧ (∀ w'', Kept w' w'' (fun k => k < wx.heap.size) → IsDF w'' w''.heap.size r t ac) ∧ OwnDF w' wx.heap.size r t ac) := fun wx d all hb hD hl hI => by
  have hd := rowsG_dok hD (ac := all.map a.nf.has) (by simp)
  refine Calls.ret (minimal_own (L := a.nf.L) hI hd hLL (by simp; omega) (hT.below hb)) ?_
  rintro r w' ⟨hb', cl, st, hW, hst', hsl, hDi, hF, hO⟩
  exact ⟨hb', _, _, (min_canT hd hW hst' hDi).congr fun w hw => (subs_lang hD hw).symm, by simp at hsl ⊢; omega, hF, hO⟩
 have hminH := hide hmin
 clear hmin
 clear h1 h2 h3 h4 hk1 hk2 hb1 hb2 hB1 hB2 hin hS hL he hst hT hok hN hLL hcat
 go_enter Tryz.func44, Tryz.ntmps44
 go_wp2_with fail
 refine Calls.ret hnet ?_
 rintro nf w3 ⟨hNF3, hb3⟩
 have hb03 := hb02.trans (hb3.mono hs2)
 have hR3 := hide (hR.out.below hb3)
 clear hnet hb3
 go_wp2_with fail
 refine Calls.ret (hsub.out _ _ hb03 hNF3) ?_
 rintro r w4 ⟨hb4, d, ⟨t0, ac0, hD0⟩, hr⟩
 have hb04 := hb03.trans (hb4.mono hb03.size)
 have hR4 := hide (hR3.out.below hb4)
 obtain ⟨A5, c5, A6, c6, rfl, h5, h6⟩ := hD0
 obtain ⟨w5, hw5, hb5, hB5, hk5⟩ := box_blk w4 #[sn0, sn0] 52
 have hf5 := hB5.frozen
 have hl5 := hB5.lt
 have hc5 := hB5.cell
 obtain ⟨w6, hw6, hB6, hK6⟩ := set2_facts hB5 (.slice A5 t0.length c5) (.slice A6 ac0.length c6)
 have hl4 := hR4.out.lt
 have hs4 := hb04.size
 have hb46 : Below w4.heap.size w4 w6 := hb5.trans (hK6.below hb5.size fun b hb e => by omega)
 have hb06 := hb04.trans (hb46.mono hs4)
 have hR6 := hR4.out.below hb46
 have hc6 := hB6.cell
 have hf6 := hR6.frozen
 have hl6 := hR6.lt
 have hcR6 := hR6.cell
 have hs6 := hb46.size
 obtain ⟨lt0, hlt0⟩ : ∃ n, n = t0.length := ⟨_, rfl⟩
 obtain ⟨la0, hla0⟩ : ∃ n, n = ac0.length := ⟨_, rfl⟩
 rw [← hlt0, ← hla0] at hw6 hr hc6
 unfold set2 at hw6
 rcases hr with ⟨hLg, rfl⟩ | ⟨all, hDi, hal, hDF, rfl⟩
 ·obtain ⟨wF, hwF, hBF, hKF⟩ := set2_facts hR6 sn0 sn0
  have hBFc := hBF.cell
  have hbF := hide (hb06.trans (hKF.below hb06.size fun b hb e => by omega))
  have hLgH := hide hLg
  clear hLg hlt0 hla0 h5 h6 hB5 hk5 hB6 hK6 hb5 hb46 hR6 hBF hKF hb4 hc2
  unfold set2 at hwF
  go_wp2_with fail
  refine bodyPost_ret (v := .tuple #[.agg #[sn0, sn0], .int .i64 4]) (by simp [results, Tryz.results44, go_sem, hBFc]) rfl ⟨hbF.out, .inl ⟨hLgH.out, rfl⟩⟩
 ·have hnl : ¬ a.nf.Large 400 := NF.not_large hDi hal
  have hDF6 : IsDF w6 w6.heap.size (.agg #[.slice A5 lt0 c5, .slice A6 la0 c6]) (rowsOf a.nf all all.length) (all.map a.nf.has) := hDF.keep (fun p hp => hb46.cell hp) hs6
  have hcall := hminH.out _ _ _ hb06 hDi hal hDF6
  have hnlH := hide hnl
  have hb06H := hide hb06
  have hR6H := hide hR6
  clear hnl hlt0 hla0 h5 h6 hB5 hk5 hB6 hK6 hb5 hb46 hR6 hb4 hDF hDF6 hDi hal hb06 hc2
  go_wp2_with fail
  refine Calls.ret hcall ?_
  rintro d w7 ⟨hb7, t', ac', hCan, hacl, hDF7, hOw7⟩
  obtain ⟨A7, c7, A8, c8, rfl, -, -⟩ := hDF7 w7 (Kept.refl _ _)
  have hR7 := hR6H.out.below hb7
  have hf7 := hR7.frozen
  have hl7 := hR7.lt
  have hc7 := hR7.cell
  obtain ⟨wF, hwF, hBF, hKF⟩ := set2_facts hR7 (.slice A7 t'.length c7) (.slice A8 ac'.length c8)
  have hBFc := hBF.cell
  have hbF := hide ((hb06H.out.trans (hb7.mono hb06H.out.size)).trans (hKF.below (by have := hb7.size; have := hb06H.out.size; omega) fun b hb e => by omega))
  have hs66 := hb06H.out.size
  have hfin := hide (fun w'' (hk : Kept wF w'' (fun k => k < w.heap.size)) => hDF7 w'' ((hKF.mono (fun b _ e => by omega)).trans hk (fun b _ e => by omega)))
  have hown := hide (hOw7.kept (base' := w.heap.size) hKF (fun g (e : g = _) _ => by omega) (by omega))
  have hCanH := hide hCan
  have haclH := hide hacl
  clear hcall hDF7 hOw7 hR7 hBF hKF hb7 hCan hacl
  unfold set2 at hwF
  obtain ⟨lr, hlr⟩ : ∃ lr, lr = t'.length := ⟨_, rfl⟩
  obtain ⟨la, hla⟩ : ∃ la, la = ac'.length := ⟨_, rfl⟩
  rw [← hlr, ← hla] at hwF hBFc hfin hown ⊢
  clear hlr hla
  go_wp2_with fail
  refine bodyPost_ret (v := .tuple #[.agg #[.slice A7 lr c7, .slice A8 la c8], .int .i64 0]) (by simp [results, Tryz.results44, go_sem, hBFc]) rfl ⟨hbF.out, .inr ⟨hnlH.out, t', ac', _, hCanH.out, haclH.out, rfl, hfin.out, hown.out⟩⟩
theorem canonical_any {v : Value} {a : WA} {w : World} (h : IsWA w w.heap.size v a) (hin : a.In) (hS : 0 ≤ a.states ∧ a.states ≤ 200000) (hL : 0 ≤ a.letters ∧ a.letters ≤ 8) (he : a.edges.length ≤ 3000000) (hst : a.start.length ≤ 4000000) (hT : PowT w) :
  Calls Tryz.prog 44 #[v] w (Ret fun r w' => CanRet w a r w') := by
 refine Calls.ret (canonical_own h hin hS hL he hst hT) ?_
 rintro r w' ⟨hb, h1 | ⟨h1, t, ac, d, h2, h3, h4, h5, -⟩⟩
 ·exact ⟨hb, .inl h1⟩
 ·exact ⟨hb, .inr ⟨h1, t, ac, d, h2, h3, h4, h5⟩⟩
end Go.Proofs.YtakpmdmjbgipiaaGreatDoor
namespace Go.Proofs.YtakpmdmjbgipiaaGreatDoor
open Go.RowKit
set_option maxHeartbeats 16000000
set_option maxRecDepth 100000
def eC (e : Edg) : List Value := [.int .i64 e.frm, .int .i64 e.letter, .int .i64 e.to]
theorem flat3_get : ∀ {l : List Edg} {k j : Nat} {e : Edg}, l[k]? = some e → j < 3 → (l.flatMap eC)[k * 3 + j]? = some (encE e j)
 | [], _, _, _, h, _ => by simp at h
 | d :: l, 0, j, e, h, hj => by
  have : d = e := by simpa using h
  subst this
  rw [List.flatMap_cons, List.getElem?_append_left (by simp [eC]; omega)]
  match j, hj with
  | 0, _ => rfl
  | 1, _ => rfl
  | 2, _ => rfl
 | d :: l, k + 1, j, e, h, hj => by
  rw [List.flatMap_cons, List.getElem?_append_right (by simp [eC]; omega)]
  have h2 := flat3_get (l := l) (k := k) (j := j) (by simpa using h) hj
  have e2 : (k + 1) * 3 + j - (eC d).length = k * 3 + j := by simp [eC]; omega
  rw [e2]
  exact h2
theorem own_slE {w : World} {base n B : Nat} {v : Value} {l : List Edg} (h : w.ownsRow base 65 3 v n (l.flatMap eC)) (hl : l.length = n) (hB : w.heap.size ≤ B) (hm : n ≤ 9223372036854775807) : ∃ A c, v = .slice A l.length c ∧ Sl w B 3 encE A l := by
 subst hl
 rcases h.2 with ⟨rfl, h0⟩ | ⟨g, cap, cur, rfl, hb, hh, hc, hs, hz, ht⟩
 ·have : l = [] := List.length_eq_zero_iff.1 h0
  subst this
  exact ⟨none, 0, rfl, Sl.nil rfl⟩
 ·refine ⟨_, cap, rfl, by omega, fun _ => ⟨g, 0, rfl, ?_, fun k d hd j hj => ?_⟩⟩
  ·have := (Array.getElem?_eq_some_iff.1 hh).1; omega
  ·rw [cell_of_row w g _ cur 65 (0, 0) hh]
   have := flat3_get hd hj
   rw [← ht, List.getElem?_take] at this
   split at this
   ·simpa using this
   ·cases this
theorem info35 : (Tryz.prog.info? 65).map (fun i => (i.zero, i.size, i.bytes)) = some (some (.agg #[.int .i64 0, .int .i64 0, .int .i64 0]), 3, 24) := by kernel_rfl
theorem row35 : RowTy Tryz.prog 26 65 3 := rowTy_of Tryz.underlying26 info35 rfl (by omega) (by omega)
def OwnE (w : World) (base : Nat) (v : Value) (es : List Edg) : Prop := ∃ x0 x1 x2 x3 vE : Value, v = .agg #[x0, x1, x2, x3, vE] ∧ w.ownsRow base 65 3 vE es.length (es.flatMap eC)
theorem OwnE.kept {w w' : World} {base base' : Nat} {v : Value} {es : List Edg} {X : Nat → Prop} (h : OwnE w base v es) (hk : Kept w w' X) (hX : ∀ g, X g → g < w.heap.size → g < base) (hb : base' ≤ base) : OwnE w' base' v es := by
 obtain ⟨x0, x1, x2, x3, vE, e, hE⟩ := h
 refine ⟨x0, x1, x2, x3, vE, e, own_mono (hk.ownsRow hE fun g hg e => ?_) hb⟩
 have h1 := own_base hE hg
 have h2 := hX g e (own_lt hE hg)
 omega
abbrev zero25 : Array Value := #[.int .i64 0, .int .i64 0, sn0, sn0, sn0]
structure AuM (w0 wr : World) (g2 g4 g5 gs : Nat) (c2 : Array Value) (L n : Nat) (vA vE : Value) (as' : List Int) (es : List Edg) : Prop where
 below : Below w0.heap.size w0 wr
 b2 : Blk wr g2 52 c2
 b4 : Blk wr g4 28 zero25
 b5 : Blk wr g5 28 #[.int .i64 (L : Int), .int .i64 (n : Int), .slice (some ⟨gs, 0, none⟩) 1 1, vA, vE]
 start : Blk wr gs 3 #[.int .i64 0]
 acc : wr.ownsRow w0.heap.size 3 1 vA as'.length (as'.map (Value.int .i64))
 eds : wr.ownsRow w0.heap.size 65 3 vE es.length (es.flatMap eC)
 sep : vA.ownBlock ≠ some gs
 ne : g4 ≠ g5
 ge : w0.heap.size ≤ g2 ∧ w0.heap.size ≤ g4 ∧ w0.heap.size ≤ g5 ∧ w0.heap.size ≤ gs
section
variable {w0 wr w' : World} {g2 g4 g5 gs L n : Nat} {c2 : Array Value} {vA vE : Value} {as' : List Int} {es : List Edg}
theorem AuM.keep (h : AuM w0 wr g2 g4 g5 gs c2 L n vA vE as' es) (hb : Below wr.heap.size wr w') : AuM w0 w' g2 g4 g5 gs c2 L n vA vE as' es :=
 ⟨h.below.trans (hb.mono h.below.size), h.b2.below hb, h.b4.below hb, h.b5.below hb, h.start.below hb, own_below h.acc hb, own_below h.eds hb, h.sep, h.ne, h.ge⟩
theorem AuM.addA {q : Int} {vA' : Value} {w1 : World} (h : AuM w0 wr g2 g4 g5 gs c2 L n vA vE as' es) (hk1 : Kept wr w1 (fun k => vA.ownBlock = some k)) (ho : w1.ownsRow w0.heap.size 3 1 vA' (as'.length + 1) (as'.map (Value.int .i64) ++ [.int .i64 q])) (hmv : Moved wr vA vA') :
  AuM w0 (w1.setCell ⟨g5, 3, none⟩ vA') g2 g4 g5 gs c2 L n vA' vE (as' ++ [q]) es := by
 have n5 := h.b5.kept hk1 (own_blk_ne h.acc h.b5 (by decide))
 have hk2 := (Kept.refl w1 (fun k => k = g5)).setCell (p := ⟨g5, 3, none⟩) (fun _ => rfl) vA'
 have hall : Kept wr (w1.setCell ⟨g5, 3, none⟩ vA') (fun k => vA.ownBlock = some k ∨ k = g5) := (hk1.mono fun _ _ e => .inl e).trans hk2 fun _ _ e => .inr e
 have hty : ∀ {e : TypeId}, e ≠ 3 → e ≠ 28 → ∀ g cs, (vA.ownBlock = some g ∨ g = g5) → ¬ Blk wr g e cs := by
  rintro e h1 h2 g cs (e1 | e1) hB
  ·exact own_blk_ne h.acc hB (fun hh => h1 hh.symm) e1
  ·exact hB.ne_ h.b5 h2 e1
 refine ⟨h.below.trans (hall.below h.below.size ?_), h.b2.kept hall fun x => hty (by decide) (by decide) _ _ x h.b2, h.b4.kept hall ?_, n5.set_ 3 vA', h.start.kept hall ?_, ?_, own_ty hall h.eds (hty (by decide) (by decide)), ?_, h.ne, h.ge⟩
 ·rintro b hb (e | e)
  ·have := own_base h.acc e; omega
  ·have := h.ge; omega
 ·rintro (e | e)
  ·exact own_blk_ne h.acc h.b4 (by decide) e
  ·exact h.ne e
 ·rintro (e | e)
  ·exact h.sep e
  ·exact h.start.ne_ h.b5 (by decide) e
 ·rw [List.length_append, List.map_append]
  exact own_ty hk2 ho (fun g cs e hB => by subst e; exact hB.ne_ n5 (by decide) rfl)
 ·intro e
  rcases hmv with hh | ⟨g', hh, hlt⟩
  ·exact h.sep (by rw [← hh]; exact e)
  ·rw [e] at hh
   have := Option.some.inj hh
   have := h.start.lt
   omega
theorem AuM.addE {d : Edg} {vE' : Value} {w1 : World} (h : AuM w0 wr g2 g4 g5 gs c2 L n vA vE as' es) (hk1 : Kept wr w1 (fun k => vE.ownBlock = some k)) (ho : w1.ownsRow w0.heap.size 65 3 vE' (es.length + 1) (es.flatMap eC ++ eC d)) :
  AuM w0 (w1.setCell ⟨g5, 4, none⟩ vE') g2 g4 g5 gs c2 L n vA vE' as' (es ++ [d]) := by
 have n5 := h.b5.kept hk1 (own_blk_ne h.eds h.b5 (by decide))
 have hk2 := (Kept.refl w1 (fun k => k = g5)).setCell (p := ⟨g5, 4, none⟩) (fun _ => rfl) vE'
 have hall : Kept wr (w1.setCell ⟨g5, 4, none⟩ vE') (fun k => vE.ownBlock = some k ∨ k = g5) := (hk1.mono fun _ _ e => .inl e).trans hk2 fun _ _ e => .inr e
 have hty : ∀ {e : TypeId}, e ≠ 65 → e ≠ 28 → ∀ g cs, (vE.ownBlock = some g ∨ g = g5) → ¬ Blk wr g e cs := by
  rintro e h1 h2 g cs (e1 | e1) hB
  ·exact own_blk_ne h.eds hB (fun hh => h1 hh.symm) e1
  ·exact hB.ne_ h.b5 h2 e1
 refine ⟨h.below.trans (hall.below h.below.size ?_), h.b2.kept hall fun x => hty (by decide) (by decide) _ _ x h.b2, h.b4.kept hall ?_, n5.set_ 4 vE', h.start.kept hall fun x => hty (by decide) (by decide) _ _ x h.start, own_ty hall h.acc (hty (by decide) (by decide)), ?_, h.sep, h.ne, h.ge⟩
 ·rintro b hb (e | e)
  ·have := own_base h.eds e; omega
  ·have := h.ge; omega
 ·rintro (e | e)
  ·exact own_blk_ne h.eds h.b4 (by decide) e
  ·exact h.ne e
 ·rw [List.length_append, List.flatMap_append]
  refine own_ty hk2 ?_ (fun g cs e hB => by subst e; exact hB.ne_ n5 (by decide) rfl)
  simpa using ho
theorem AuM.finO {wF : World} (h : AuM w0 wr g2 g4 g5 gs c2 L n vA vE as' es) (hk : Kept wr wF (fun k => k = g4)) : OwnE wF w0.heap.size (.agg #[.int .i64 (L : Int), .int .i64 (n : Int), .slice (some ⟨gs, 0, none⟩) 1 1, vA, vE]) es :=
 ⟨_, _, _, _, _, rfl, hk.ownsRow h.eds fun g hg e => own_blk_ne h.eds h.b4 (by decide) (by rw [hg, e])⟩
theorem AuM.fin {wF : World} (h : AuM w0 wr g2 g4 g5 gs c2 L n vA vE as' es) (hk : Kept wr wF (fun k => k = g4 ∨ k < w0.heap.size)) (ha : as'.length ≤ 4000000) (he : es.length ≤ 4000000) :
  IsWA wF wF.heap.size (.agg #[.int .i64 (L : Int), .int .i64 (n : Int), .slice (some ⟨gs, 0, none⟩) 1 1, vA, vE]) ⟨(L : Int), (n : Int), [0], as', es⟩ := by
 have hge := h.ge
 have hA := hk.ownsRow h.acc fun g hg e => by
  rcases e with e | e
  ·exact own_blk_ne h.acc h.b4 (by decide) (by rw [hg, e])
  ·have := own_base h.acc hg; omega
 have hE := hk.ownsRow h.eds fun g hg e => by
  rcases e with e | e
  ·exact own_blk_ne h.eds h.b4 (by decide) (by rw [hg, e])
  ·have := own_base h.eds hg; omega
 have hS := h.start.kept hk fun e => by
  rcases e with e | e
  ·exact h.start.ne_ h.b4 (by decide) e
  ·omega
 obtain ⟨A2, c2, e2, h2⟩ := own_slI (B := wF.heap.size) hA rfl (Nat.le_refl _) (by omega)
 obtain ⟨A3, c3, e3, h3⟩ := own_slE (B := wF.heap.size) hE rfl (Nat.le_refl _) (by omega)
 obtain ⟨A1, c1, e1, h1⟩ := own_slI (B := wF.heap.size) (l := [0]) (base := 0) (own_of_blk (n := 1) hS (Nat.zero_le _) rfl (by omega)) rfl (Nat.le_refl _) (by omega)
 injection e1 with e1 _ e4
 subst e1
 exact ⟨_, 1, A2, c2, A3, c3, by rw [e2, e3]; rfl, h1, h2, h3, Nat.le_refl _⟩
end
end Go.Proofs.YtakpmdmjbgipiaaGreatDoor
