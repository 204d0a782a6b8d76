/-
  Part JG of a proof.
-/
import Derived.Test.YtakpmdmjbgipiaaGreatDoorPA
import Derived.Test.YtakpmdmjbgipiaaGreatDoorJF
set_option maxHeartbeats 16000000
set_option maxRecDepth 100000
set_option linter.unusedVariables false
set_option linter.unusedSimpArgs false
namespace Go.Proofs.YtakpmdmjbgipiaaGreatDoor
open Go.RowKit
set_option maxHeartbeats 16000000
set_option maxRecDepth 100000
theorem prod_mem (w : World) (ca cb : Array Value) (fv : Value) (f : Nat × Nat → Bool) : ∃ g3 g4 g5 g6 g7 g8 g9 gm w1 w2 w3 w4 w5 w6 w7 w8, g3 = w.heap.size ∧ g4 = w1.heap.size ∧ g5 = w2.heap.size ∧ g6 = w3.heap.size ∧ g7 = w4.heap.size ∧ g8 = w6.heap.size ∧ g9 = w7.heap.size ∧
  w.alloc (.cells ca 52) = w1 ∧ w1.alloc (.cells cb 52) = w2 ∧ w2.alloc (.cells #[fv] 67) = w3 ∧ w3.alloc (.cells #[sn0, sn0] 52) = w4 ∧ w4.alloc (.cells #[sn0, sn0] 52) = w5 ∧ (Instr.makeMap 142 none).run Tryz.prog w5 = .ok (.map (some gm)) w6 ∧ w6.alloc (.cells #[.map (some gm)] 142) = w7 ∧ w7.alloc (.cells #[sn0] 143) = w8 ∧
  w.heap.size ≤ w3.heap.size ∧ Below w.heap.size w w4 ∧ Blk w4 g6 52 #[sn0, sn0] ∧ PrM w4 w8 g3 g4 g5 g7 g8 g9 gm ca cb fv f sn0 sn0 sn0 [] [] [] (fun _ => True) := by
 obtain ⟨w1, h1, hb1, hB1, hk1⟩ := box_blk w ca 52
 obtain ⟨w2, h2, hb2, hB2, hk2⟩ := box_blk w1 cb 52
 obtain ⟨w3, h3, hb3, hB3, hk3⟩ := box_blk w2 #[fv] 67
 obtain ⟨w4, h4, hb4, hB4, hk4⟩ := box_blk w3 #[sn0, sn0] 52
 obtain ⟨w5, h5, hb5, hB5, hk5⟩ := box_blk w4 #[sn0, sn0] 52
 obtain ⟨gm, w6, h6, hM6, hb6, hgm⟩ := mk_map 142 w5
 obtain ⟨w7, h7, hb7, hB7, hk7⟩ := box_blk w6 #[.map (some gm)] 142
 obtain ⟨w8, h8, hb8, hB8, hk8⟩ := box_blk w7 #[sn0] 143
 have s1 := hb1.size
 have s2 := hb2.size
 have s3 := hb3.size
 have s4 := hb4.size
 have s5 := hb5.size
 have s6 := hb6.size
 have s7 := hb7.size
 have s8 := hb8.size
 have l1 := hB1.lt
 have l2 := hB2.lt
 have l3 := hB3.lt
 have l4 := hB4.lt
 have b04 : Below w.heap.size w w4 := hb1.trans ((hb2.mono s1).trans ((hb3.mono (by omega)).trans (hb4.mono (by omega))))
 have b68 : Below w6.heap.size w6 w8 := hb7.trans (hb8.mono s7)
 have b58 : Below w5.heap.size w5 w8 := hb6.trans (b68.mono s6)
 have b48 : Below w4.heap.size w4 w8 := hb5.trans (b58.mono s5)
 have hm8 := hM6.keep (b68.block _ hM6.lt)
 exact ⟨_, _, _, _, _, _, _, gm, w1, w2, w3, w4, w5, w6, w7, w8, rfl, rfl, rfl, rfl, rfl, rfl, rfl, h1, h2, h3, h4, h5, h6, h7, h8, by omega, b04, hB4,
  ⟨b48, (((hB1.below hb2).below hb3).below hb4).below b48, ((hB2.below hb3).below hb4).below b48, (hB3.below hb4).below b48, hB5.below b58, hB7.below hb8, hB8, hm8, own_nil, own_nil, own_nil, .nil, ⟨by omega, by omega⟩, ⟨Nat.le_refl _, by omega, by omega, by omega⟩⟩⟩
structure ProI (w0 wr : World) (g3 g4 g5 g7 g8 g9 gm : Nat) (ca cb : Array Value) (fv : Value) (op : Bool → Bool → Bool) (L : Nat) (t u : List (List Nat)) (ac bc : List Bool) (i : Nat) (all : List (Nat × Nat)) (vP vN vA : Value) (ws : List Value) : Prop where
 mem : PrM w0 wr g3 g4 g5 g7 g8 g9 gm ca cb fv (accPr op ac bc) vN vA vP all (rowsG L (dPr t u) all i) ws (fun _ => True)
 exp : Exp L (dPr t u) (0, 0) i all
structure ProJ (w0 wr : World) (g3 g4 g5 g7 g8 g9 gm : Nat) (ca cb : Array Value) (fv : Value) (op : Bool → Bool → Bool) (L : Nat) (t u : List (List Nat)) (ac bc : List Bool) (i : Nat) (p : Nat × Nat) (gr x : Nat) (all all' : List (Nat × Nat)) (vP vN vA : Value) (ws : List Value) : Prop where
 mem : PrM w0 wr g3 g4 g5 g7 g8 g9 gm ca cb fv (accPr op ac bc) vN vA vP all' (rowsG L (dPr t u) all i) ws (fun g => g ≠ gr)
 eq : all' = rowL (dPr t u) p all x
 blk : Blk wr gr 3 (rangeC L fun y => if y < x then Value.int .i64 (posL all' (dPr t u p y) : Int) else .int .i64 0)
section
variable {w0 wr : World} {g3 g4 g5 g7 g8 g9 gm L i gr x : Nat} {ca cb : Array Value} {fv : Value} {op : Bool → Bool → Bool} {t u : List (List Nat)} {ac bc : List Bool} {p : Nat × Nat} {all all' : List (Nat × Nat)} {vP vN vA vP' vA' : Value} {ws : List Value}
theorem ProJ.step (h : ProJ w0 wr g3 g4 g5 g7 g8 g9 gm ca cb fv op L t u ac bc i p gr x all all' vP vN vA ws) {w1 : World} (hM : PrM w0 w1 g3 g4 g5 g7 g8 g9 gm ca cb fv (accPr op ac bc) vN vA' vP' (meetL all' (dPr t u p x)) (rowsG L (dPr t u) all i) ws (fun g => g ≠ gr)) (hB : ∀ g cs, Blk wr g 3 cs → Blk w1 g 3 cs) (hg : w0.heap.size ≤ gr) :
  Blk w1 gr 3 (rangeC L fun y => if y < x then Value.int .i64 (posL all' (dPr t u p y) : Int) else .int .i64 0) ∧
  ProJ w0 (w1.setCell ⟨gr, x, none⟩ (.int .i64 (posL (meetL all' (dPr t u p x)) (dPr t u p x) : Int))) g3 g4 g5 g7 g8 g9 gm ca cb fv op L t u ac bc i p gr (x + 1) all (meetL all' (dPr t u p x)) vP' vN vA' ws := by
 have hb1 := hB _ _ h.blk
 have hk := (Kept.refl w1 (fun k => k = gr)).setCell (p := ⟨gr, x, none⟩) (fun _ => rfl) (.int .i64 (posL (meetL all' (dPr t u p x)) (dPr t u p x) : Int))
 have he : meetL all' (dPr t u p x) = rowL (dPr t u) p all (x + 1) := by rw [rowL_succ, h.eq]
 refine ⟨hb1, hM.other (fun _ h => h) hb1 hg hk, he, ?_⟩
 have h1 := hb1.set_ x (.int .i64 (posL (meetL all' (dPr t u p x)) (dPr t u p x) : Int))
 rw [rangeC_set] at h1
 rw [rangeC_congr (g := fun y => if y = x then .int .i64 (posL (meetL all' (dPr t u p x)) (dPr t u p x) : Int) else if y < x then Value.int .i64 (posL all' (dPr t u p y) : Int) else .int .i64 0) (fun y _ => by
  by_cases e : y = x
  ·subst e; rw [if_pos (by omega), if_pos rfl]
  ·by_cases e2 : y < x
   ·rw [if_pos (by omega), if_neg e, if_pos e2, pos_pre (prefix_meetL _ _) (by rw [h.eq]; exact rowL_has _ _ e2)]
   ·rw [if_neg (by omega), if_neg e, if_neg e2])]
 exact h1
end
theorem rowL_lenK {S : Type} [DecidableEq S] (δ : S → Nat → S) (s : S) (l : List S) : ∀ k, (rowL δ s l k).length ≤ l.length + k
 | 0 => Nat.le_refl _
 | k + 1 => by
  rw [rowL_succ]
  have := rowL_lenK δ s l k
  unfold meetL
  split
  ·omega
  ·rw [List.length_append, List.length_singleton]; omega
theorem product_any {F : Nat} {op : Bool → Bool → Bool} (hF : OpF F op) {w : World} {v1 v2 : Value} {L : Nat} {t u : List (List Nat)} {ac bc : List Bool} (h : IsDF w w.heap.size v1 t ac) (h' : IsDF w w.heap.size v2 u bc) (hok : DOK L t ac) (hok' : DOK L u bc) (hL : L ≤ 8) (hn : ac.length * bc.length ≤ 250000) (hT : PowT w) :
  Calls Tryz.prog 62 #[v1, v2, .func (.func F) #[] #[]] w (Ret fun r w' => Below w.heap.size w w' ∧ ∃ t' ac', CanT L t' ac' (fun z => op (langT t ac z) (langT u bc z)) ∧ ac'.length ≤ ac.length * bc.length ∧ ∀ w'', Kept w' w'' (fun k => k < w.heap.size) → IsDF w'' w''.heap.size r t' ac') := by
 obtain ⟨A1, c1, A2, c2, rfl, h1, h2⟩ := h
 obtain ⟨A3, c3, A4, c4, rfl, h3, h4⟩ := h'
 obtain ⟨g3, g4, g5, g6, g7, g8, g9, gm, w1, w2, w3, w4, w5, w6, w7, w8, e3, e4, e5, e6, e7, e8, e9, hw1, hw2, hw3, hw4, hw5, hw6, hw7, hw8, hl3, hb04, hB6, hP⟩ := prod_mem w #[.slice A1 t.length c1, .slice A2 ac.length c2] #[.slice A3 u.length c3, .slice A4 bc.length c4] (.func (.func F) #[] #[]) (accPr op ac bc)
 subst e3 e4 e5 e6 e7 e8 e9
 have htl := hok.len
 have hul := hok'.len
 rw [htl] at hw1 hP ⊢
 rw [hul] at hw2 hP ⊢
 have h14 := hide (VSl.keep (@R1n.keep) h1 (w' := w4) (fun p hp => hb04.cell hp) hb04.size)
 have h24 := hide (h2.keep (w' := w4) (fun p hp => hb04.cell hp) hb04.size)
 have h34 := hide (VSl.keep (@R1n.keep) h3 (w' := w4) (fun p hp => hb04.cell hp) hb04.size)
 have h44 := hide (h4.keep (w' := w4) (fun p hp => hb04.cell hp) hb04.size)
 have hb04H := hide hb04
 have hB6H := hide hB6
 have hokH := hide hok
 have hokH' := hide hok'
 have hnH := hide hn
 have hTH := hide hT
 have hFH := hide hF
 have hP0 : 0 < ac.length := hok.pos
 have hP0' : 0 < bc.length := hok'.pos
 have hcall : Calls Tryz.prog 91 #[.agg #[.int .i64 0, .int .i64 0], .pointer (some ⟨w6.heap.size, 0, none⟩), .pointer (some ⟨w7.heap.size, 0, none⟩), .pointer (some ⟨w4.heap.size, 0, none⟩), .pointer (some ⟨w2.heap.size, 0, none⟩), .pointer (some ⟨w.heap.size, 0, none⟩), .pointer (some ⟨w1.heap.size, 0, none⟩)] w8 _ :=
  prod1_any (p := (0, 0)) hF hP h24.out h44.out ⟨hP0, hP0'⟩ (Nat.zero_le _)
 have hl4 := hB6.lt
 clear h1 h2 h3 h4 hok hok' htl hul hb04 hB6 hn hT hP hF hP0 hP0'
 go_enter Tryz.func62, Tryz.ntmps62
 go_wp2_with fail
 refine Calls.ret hcall ?_
 rintro r wa ⟨-, vA0, vP0, hM0, -⟩
 have hI0 : Hid (ProI w4 wa w.heap.size w1.heap.size w2.heap.size w4.heap.size w6.heap.size w7.heap.size gm #[.slice A1 ac.length c1, .slice A2 ac.length c2] #[.slice A3 bc.length c3, .slice A4 bc.length c4] (.func (.func F) #[] #[]) op L t u ac bc 0 [(0, 0)] vP0 sn0 vA0 []) := ⟨hM0, .start⟩
 clear hcall hM0
 go_wp2_with fail
 go_loopw [11] (fun ii wr => ∃ (i : Nat) (all : List (Nat × Nat)) (vP vN vA : Value) (ws : List Value), ii = .int .i64 (i : Int) ∧ i ≤ 250000 ∧ Hid (ProI w4 wr w.heap.size w1.heap.size w2.heap.size w4.heap.size w6.heap.size w7.heap.size gm #[.slice A1 ac.length c1, .slice A2 ac.length c2] #[.slice A3 bc.length c3, .slice A4 bc.length c4] (.func (.func F) #[] #[]) op L t u ac bc i all vP vN vA ws)) (fun ii _ => 250001 - (intOf ii).toNat)
 case atStart => exact ⟨0, _, _, _, _, _, rfl, Nat.zero_le _, hI0⟩
 case round =>
  obtain ⟨i, all, vP, vN, vA, ws, rfl, hi, hI⟩ := hrel
  have hII := hI.out
  have hall : all.length ≤ 250000 := Nat.le_trans (pr_len hokH.out hokH'.out hII.exp) hnH.out
  have hie := hII.exp.inv.le
  obtain ⟨AP, cP, rfl⟩ := slice_of_own hII.mem.prs
  have hc9 := hII.mem.b9.cell
  by_cases hlt : i < all.length
  ·obtain ⟨p, hp⟩ := get_lt hlt
   have hpin := pr_in hokH.out hokH'.out hII.exp (List.mem_of_getElem? hp)
   obtain ⟨gP, cP', e, hbP, hgP, hcp1, hcp2⟩ := own_pair hII.mem.prs rfl hp
   cases e
   obtain ⟨wb, hwb, hbb, hBb, hkb⟩ := box_blk wr #[.int .i64 (p.1 : Int), .int .i64 (p.2 : Int)] 144
   obtain ⟨bn, on, Ar, cr, row, rfl, hbn, hcn0, hrow, hrl, hrS, hrv⟩ := df_row h14.out hokH.out hpin.1
   obtain ⟨bn2, on2, Ar2, cr2, row2, rfl, hbn2, hcn02, hrow2, hrl2, hrS2, hrv2⟩ := df_row h34.out hokH'.out hpin.2
   have hIb := hII.mem.keep hbb
   have hcn : wb.cell? ⟨bn, on + p.1, none⟩ = some (.slice Ar L cr) := (hIb.below.cell hbn).trans hcn0
   have hc3b := hIb.b3.cell
   have hcbb := hBb.cell
   have hp1 := hpin.1
   have hp2 := hpin.2
   obtain ⟨gr, w9, hmk9, hbl9, hb9, hgr9⟩ := mk_ints wb L (by omega)
   rw [rangeC_rep] at hbl9
   have hszr := hII.mem.below.size
   have hszb := hbb.size
   have hJ0 : Hid (ProJ w4 w9 w.heap.size w1.heap.size w2.heap.size w4.heap.size w6.heap.size w7.heap.size gm #[.slice (some ⟨bn, on, none⟩) ac.length c1, .slice A2 ac.length c2] #[.slice (some ⟨bn2, on2, none⟩) bc.length c3, .slice A4 bc.length c4] (.func (.func F) #[] #[]) op L t u ac bc i p gr 0 all all (.slice (some ⟨gP, 0, none⟩) all.length cP) vN vA ws) := by
    refine ⟨(hIb.weak (N' := fun g => g ≠ gr) (fun g hg _ e => by omega)).keep hb9, rfl, ?_⟩
    rw [rangeC_congr (g := fun _ => Value.int .i64 0) (fun y _ => by rw [if_neg (by omega)])]
    exact hbl9
   have hX0 : Hid (Blk w9 wr.heap.size 144 #[.int .i64 (p.1 : Int), .int .i64 (p.2 : Int)] ∧ (Value.slice (some ⟨gP, 0, none⟩) all.length cP).ownBlock ≠ some wr.heap.size) := ⟨hBb.below hb9, fun e => by
    have := own_lt hII.mem.prs e
    omega⟩
   have hg29 : w4.heap.size ≤ gr := by omega
   have hpH := hide hp
   have hrSH := hide hrS
   have hrvH := hide hrv
   have hrlH := hide hrl
   have hrS2H := hide hrS2
   have hrv2H := hide hrv2
   have hrl2H := hide hrl2
   have hcn0H := hide hcn0
   have hcn02H := hide hcn02
   have hpinH := hide hpin
   clear hII hIb hp hpin hrow hrow2 hrS hrv hrl hrS2 hrv2 hrl2 hcn0 hcn02 hbb hBb hkb hbl9
   go_wp2_with fail
   go_loopw [40] (fun ii wz => ∃ (x : Nat) (all' : List (Nat × Nat)) (vP' vA' : Value), ii = .int .i64 (x : Int) ∧ x ≤ L ∧ Hid (ProJ w4 wz w.heap.size w1.heap.size w2.heap.size w4.heap.size w6.heap.size w7.heap.size gm #[.slice (some ⟨bn, on, none⟩) ac.length c1, .slice A2 ac.length c2] #[.slice (some ⟨bn2, on2, none⟩) bc.length c3, .slice A4 bc.length c4] (.func (.func F) #[] #[]) op L t u ac bc i p gr x all all' vP' vN vA' ws) ∧ Hid (Blk wz wr.heap.size 144 #[.int .i64 (p.1 : Int), .int .i64 (p.2 : Int)] ∧ vP'.ownBlock ≠ some wr.heap.size)) (fun ii _ => L - (intOf ii).toNat)
   case atStart => exact ⟨0, all, _, _, rfl, Nat.zero_le _, hJ0, hX0⟩
   case round =>
    rename World => wz
    obtain ⟨x, all', vP', vA', rfl, hx, hJ, hX⟩ := hrel
    have hJJ := hJ.out
    have hall' : all'.length ≤ 300000 := by
     have := rowL_lenK (dPr t u) p all x
     rw [← hJJ.eq] at this
     omega
    by_cases hxL : x < L
    ·obtain ⟨y, hy⟩ := get_lt (l := row) (i := x) (by rw [hrlH.out]; exact hxL)
     obtain ⟨z, hz⟩ := get_lt (l := row2) (i := x) (by rw [hrl2H.out]; exact hxL)
     obtain ⟨br, or', rfl, hbr, hcr0⟩ := sl_natat hrSH.out hy
     obtain ⟨br2, or2, rfl, hbr2, hcr02⟩ := sl_natat hrS2H.out hz
     obtain ⟨hyn, hyd⟩ := hrvH.out x y hy
     obtain ⟨hzn, hzd⟩ := hrv2H.out x z hz
     have hd : Hid (dPr t u p x = (y, z)) := by show (_, _) = _; rw [hyd, hzd]
     have hc3 := hJJ.mem.b3.cell
     have hc4 := hJJ.mem.b4.cell
     have hcx := hX.out.1.cell
     have hcn := (hJJ.mem.below.cell (p := ⟨bn, on + p.1, none⟩) hbn).trans hcn0H.out
     have hcn2 := (hJJ.mem.below.cell (p := ⟨bn2, on2 + p.2, none⟩) hbn2).trans hcn02H.out
     have hcy := (hJJ.mem.below.cell (p := ⟨br, or' + x, none⟩) hbr).trans hcr0
     have hcz := (hJJ.mem.below.cell (p := ⟨br2, or2 + x, none⟩) hbr2).trans hcr02
     have hcall := prod1_any (p := (y, z)) hFH.out (hJJ.mem.keep (drewB wz)) h24.out h44.out ⟨hyn, hzn⟩ hall'
     unfold encP at hcall
     clear hJJ hy hz hcr0 hcr02 hyd hzd
     go_wp2_with fail
     refine Reg.cP [0, 0, 0, 0, 8, 0, 32, 120, 248, 0, 1016, 2040, 0, 4096, 0, 16384, 61440, 126976, 0, 520192, 1044480, 2097144, 4194300, 8388607, 16777215] ?_
     go_wp2_with fail
     refine Calls.ret hcall ?_
     rintro r w11 ⟨rfl, vA7, vP7, hM7, hSt⟩
     obtain ⟨hblk, hnew⟩ := hJ.out.step (w1 := w11) (by rw [hd.out]; exact hM7) (fun g cs hB => hSt.1 g cs (hB.below (drewB wz))) hg29
     rw [hd.out] at hnew
     have hcg : w11.cell? ⟨gr, x, none⟩ = some (.int .i64 0) := by rw [hblk.cell, rangeC_get _ hxL, if_neg (by omega)]
     have hfg := hblk.frozen x
     have hlg := hblk.lt
     have hX1 := hSt.2 _ _ hX.out.2 (hX.out.1.below (drewB wz))
     have hX7 : Hid (Blk (w11.setCell ⟨gr, x, none⟩ (.int .i64 (posL (meetL all' (y, z)) (y, z) : Int))) wr.heap.size 144 #[.int .i64 (p.1 : Int), .int .i64 (p.2 : Int)] ∧ vP7.ownBlock ≠ some wr.heap.size) :=
      ⟨hX1.1.kept ((Kept.refl w11 (fun k => k = gr)).setCell (p := ⟨gr, x, none⟩) (fun _ => rfl) _) (hX1.1.ne_ hblk (by decide)), hX1.2⟩
     have hnewH := hide hnew
     clear hcall hM7 hSt hblk hnew hX1
     go_wp2_with fail
     exact ⟨⟨x + 1, _, vP7, vA7, by go_num, by omega, hnewH, hX7⟩, by simp [intOf]; omega⟩
    ·obtain rfl : x = L := by omega
     obtain ⟨AN, cN, rfl⟩ := slice_of_own hJJ.mem.nxt
     have htl := rowsG_len (L := x) (δ := dPr t u) hie
     have hnx := hJJ.mem.nxt
     have hc7x := hJJ.mem.b7.cell
     rw [htl] at hnx hc7x
     obtain ⟨rw', hrw⟩ : ∃ rw', rw' = (List.range x).map fun y => posL all' (dPr t u p y) := ⟨_, rfl⟩
     have hrwl : rw'.length = x := by rw [hrw]; simp
     have hownr : wz.ownsRow w4.heap.size 3 1 (.slice (some ⟨gr, 0, none⟩) rw'.length x) rw'.length ((natL rw').map (Value.int .i64)) := by
      have := own_of_blk hJJ.blk hg29 (rangeC_size _ _) (by omega)
      rw [hrwl]
      have e : (rangeC x fun y => if y < x then Value.int .i64 (posL all' (dPr t u p y) : Int) else .int .i64 0).toList = (natL rw').map (Value.int .i64) := by
       rw [hrw]
       simp only [rangeC, natL, List.map_map]
       exact List.map_congr_left fun y hy => by rw [if_pos (List.mem_range.1 hy)]; rfl
      rw [e] at this
      exact this
     have hownr2 : wz.ownsRow w4.heap.size 3 1 (.slice (some ⟨gr, 0, none⟩) rw'.length x) rw'.length (rw'.map fun y : Nat => Value.int .i64 (y : Int)) := by
      have e2 : (natL rw').map (Value.int .i64) = rw'.map fun y : Nat => Value.int .i64 (y : Int) := by simp [natL]
      rw [← e2]
      exact hownr
     have hszJ := hJJ.mem.below.size
     have hrwH := hide hrw
     have hrwlH := hide hrwl
     have hownrH := hide hownr2
     have htlH := hide htl
     clear hJJ hrw hrwl hownr hownr2 htl
     go_wp2_with (
      at_builtin
      refine wpList_app_new (w := wz) row22 rfl _ _ rfl w4.heap.size (.slice AN i cN) i _ rfl hnx [.slice (some ⟨gr, 0, none⟩) x x] 1 rfl rfl (by simp [Value.oneCell']) (by omega) hszJ ?_
      intro ga capa wa howna hka hmva hga
      have hka2 := hka
      rw [← htlH.out] at hka2
      have hb7a := hJ.out.mem.b7.kept hka2 (own_blk_ne hJ.out.mem.nxt hJ.out.mem.b7 (by decide))
      have hR := hJ.out.mem.rowAdd (vN' := .slice (some ⟨ga, 0, none⟩) (i + 1) capa) hownrH.out hka2 (by rw [htlH.out, hrwlH.out]; exact howna)
      have hcga := hb7a.cell
      rw [htlH.out] at hcga
      have hfga := hb7a.frozen 0
      have hlga := hb7a.lt
      have hRH := hide hR
      clear hR hb7a howna hka hka2 hmva)
     refine ⟨⟨i + 1, all', vP', .slice (some ⟨ga, 0, none⟩) (i + 1) capa, vA', ws ++ [.slice (some ⟨gr, 0, none⟩) rw'.length x], by go_num, by omega, ?_⟩, by simp [intOf]; omega⟩
     have hpk : all <+: all' := by rw [hJ.out.eq]; exact rowL_pre _ _ _
     refine hide ⟨?_, ?_⟩
     ·have := hRH.out
      rw [rowsG_succ (prefix_get hpk hpH.out), rowsG_ext hI.out.exp hpk, ← hrwH.out]
      exact this
     ·rw [hJ.out.eq]
      exact .row hI.out.exp hpH.out
  ·obtain rfl : i = all.length := by omega
   have hDisc : Disc L (dPr t u) (0, 0) all := hII.exp
   have hlen := pr_len hokH.out hokH'.out hDisc
   have hfn := hII.mem.fin (Kept.refl _ _) (fun r hr => by
    unfold rowsG at hr
    obtain ⟨s, _, rfl⟩ := List.mem_map.1 hr
    simp; omega) (by rw [rowsG_len (Nat.le_refl _)]; omega) (by omega)
   have hdk := rowsG_dok hDisc (ac := all.map (accPr op ac bc)) (by simp)
   have hwr := hII.mem.below.size
   have h04r := hide (hb04H.out.trans (hII.mem.below.mono hb04H.out.size))
   have hmin := minimal_any hfn hdk hL (by rw [List.length_map]; omega) (hTH.out.below h04r.out)
   have hc7 := hII.mem.b7.cell
   obtain ⟨AN, cN, rfl⟩ := slice_of_own hII.mem.nxt
   obtain ⟨AA, cA, rfl⟩ := slice_of_own hII.mem.acc
   have hB6r := hide (hB6H.out.below hII.mem.below)
   have hDH := hide hDisc
   have hlenH := hide hlen
   have hdkH := hide hdk
   clear hII hfn hDisc hlen hdk
   go_wp2_with fail
   refine Calls.ret hmin ?_
   rintro d w5 ⟨hb5, cl, st, hW, hst, hsl, hDi, hDF5⟩
   obtain ⟨A5, c5, A6, c6, rfl, -, -⟩ := hDF5 w5 (Kept.refl _ _)
   have hR5 := hB6r.out.at (B := wr.heap.size) (by have := hB6r.out.lt; exact this) hb5
   have hf5 := hR5.frozen
   have hl5 := hR5.lt
   have hc5 := hR5.cell
   obtain ⟨wF, hwF, hBF, hKF⟩ := set2_facts hR5 (.slice A5 (rowsG L (clsNx (dnx (rowsG L (dPr t u) all all.length)) cl) (st.map fun s => cl.getD s 0) st.length).length c5) (.slice A6 (st.map (dac (all.map (accPr op ac bc)))).length c6)
   have hBFc := hBF.cell
   have hbF := hide ((h04r.out.trans (hb5.mono h04r.out.size)).trans (hKF.below (by have := h04r.out.size; have := hb5.size; omega) fun b hb e => by omega))
   have hfin := hide (fun w'' (hk : Kept wF w'' (fun k => k < w.heap.size)) => hDF5 w'' ((hKF.mono (fun b _ e => by have := h04r.out.size; omega)).trans hk (fun b _ e => by have := h04r.out.size; omega)))
   have hCT := hide ((min_canT hdkH.out hW hst hDi).congr (Λ' := fun z => op (langT t ac z) (langT u bc z)) fun z hz => (pr_lang hDH.out hz).symm)
   have hsl2 : Hid ((st.map (dac (all.map (accPr op ac bc)))).length ≤ ac.length * bc.length) := by
    show _ ≤ _
    rw [List.length_map]
    rw [List.length_map] at hsl
    exact Nat.le_trans hsl hlenH.out
   clear hDF5 hR5 hBF hKF hb5 hDi hmin hW hst hsl
   unfold set2 at hwF
   obtain ⟨tt, htt⟩ : ∃ tt, tt = rowsG L (clsNx (dnx (rowsG L (dPr t u) all all.length)) cl) (st.map fun s => cl.getD s 0) st.length := ⟨_, rfl⟩
   obtain ⟨aa, haa⟩ : ∃ aa, aa = st.map (dac (all.map (accPr op ac bc))) := ⟨_, rfl⟩
   rw [← htt, ← haa] at hfin hCT
   rw [← haa] at hsl2
   rw [← htt, ← haa] at hwF hBFc ⊢
   clear htt haa
   obtain ⟨lr, hlr⟩ : ∃ lr, lr = tt.length := ⟨_, rfl⟩
   obtain ⟨la, hla⟩ : ∃ la, la = aa.length := ⟨_, rfl⟩
   rw [← hlr, ← hla] at hwF hBFc hfin ⊢
   rw [← hla] at hsl2
   have hlaH := hide hla
   clear hlr hla
   go_wp2_with fail
   refine bodyPost_ret (v := .agg #[.slice A5 lr c5, .slice A6 la c6]) (by simp [results, Tryz.results62, go_sem, hBFc]) rfl ⟨hbF.out, tt, aa, hCT.out, by rw [← hlaH.out]; exact hsl2.out, hfin.out⟩
end Go.Proofs.YtakpmdmjbgipiaaGreatDoor
