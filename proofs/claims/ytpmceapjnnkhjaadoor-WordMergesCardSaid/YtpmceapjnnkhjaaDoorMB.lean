/-
  Part MB of a proof.
-/
import Derived.Test.YtpmceapjnnkhjaaDoorPA
import Derived.Test.YtpmceapjnnkhjaaDoorMA
import Derived.Test.YtpmceapjnnkhjaaDoorPK
import Derived.Test.YtpmceapjnnkhjaaDoorPI
set_option maxHeartbeats 16000000
set_option maxRecDepth 100000
set_option linter.unusedVariables false
set_option linter.unusedSimpArgs false
namespace Go.Proofs.YtpmceapjnnkhjaaDoor
open Go.RowKit
set_option maxHeartbeats 16000000
set_option maxRecDepth 100000
theorem mrg_x {w5 w : World} {n cnt L gn ga g9 q k b0 o0 c bR oR cr : Nat} {v0 v2 v3 : Value} {nx : Nat → Nat → Nat} {cl row : List Nat} {ms : List Bool} {gi : Nat → Nat} {u : Nat → Nat → Value} {l : Nat → Nat → List Int}
  (hX0 : NetX (fun b => b = gn ∨ b = ga) w5 w cnt L gn gi u l) (hP0 : MgP n L cnt nx (fun i => cl.getD i 0) q 0 l) (hB0 : Blk w ga 4 (ms.map Value.bool).toArray)
  (h9 : Blk w5 g9 79 #[v0, .slice (some ⟨gn, 0, none⟩) cnt cnt, v2, v3]) (h9n : g9 ≠ gn ∧ g9 ≠ ga)
  (hcl : ∀ y z : Nat, cl[y]? = some z → w5.cell? ⟨b0, o0 + y, none⟩ = some (.int .i64 (z : Int))) (hb0 : b0 < w5.heap.size ∧ b0 ≠ gn ∧ b0 ≠ ga)
  (hrow : ∀ x y : Nat, row[x]? = some y → w5.cell? ⟨bR, oR + x, none⟩ = some (.int .i64 (y : Int)) ∧ y < n ∧ nx q x = y) (hbR : bR < w5.heap.size ∧ bR ≠ gn ∧ bR ≠ ga)
  (hq : q < n) (hkq : cl.getD q 0 = k) (hk : k < cnt) (hclt : ∀ s, s < n → cl.getD s 0 < cnt) (hM : ∀ s x : Nat, s < n → x < L → nx s x < n) (hlen : cl.length = n) (hrl : row.length = L) (hcnt : cnt ≤ 400) (hL : L ≤ 8)
  {u0 u1 u2 u3 u4 u5 u6 u8 u10 u11 u12 u14 u15 u16 u17 u18 u19 u20 u21 u22 u23 u24 u25 u26 u27 u28 u29 u30 u31 u32 u33 u34 u35 u36 u37 u38 u39 u40 u41 u42 u43 u44 u45 u46 u47 u48 u49 u50 u51 u52 u53 u54 u55 u56 u57 u58 u59 u60 u61 u62 u63 u64 u65 u66 u67 u68 u69 u70 u71 u72 u73 u74 u78 u79 u80 u81 u82 u83 u84 u85 u86 u87 u88 u89 u90 u91 u92 u93 u94 u95 u96 u97 u98 u99 u100 u101 u102 u103 u104 u105 u106 : Value} {Q : Exit → Act → World → Prop} (hN : Reg.NoQ Q)
  (hQ : ∀ (x14 x15 x77 x78 x79 x80 x81 x82 x83 x84 x85 x86 x87 x88 x89 x90 x91 x92 x93 x94 x95 x96 x97 x98 x99 x100 x101 x102 x103 x104 : Value) (w' : World) (u' : Nat → Nat → Value) (l' : Nat → Nat → List Int), NetX (fun b => b = gn ∨ b = ga) w5 w' cnt L gn gi u' l' → MgP n L cnt nx (fun i => cl.getD i 0) q L l' → Blk w' ga 4 (ms.map Value.bool).toArray → Q (.exit 6) ⟨List.toArray (u0 :: u1 :: u2 :: u3 :: u4 :: u5 :: u6 :: (.slice (some ⟨b0, o0, none⟩) n c) :: u8 :: (.pointer (some ⟨g9, 0, none⟩)) :: u10 :: u11 :: u12 :: (.int .i64 (k : Int)) :: x14 :: x15 :: u16 :: u17 :: u18 :: u19 :: u20 :: u21 :: u22 :: u23 :: u24 :: u25 :: u26 ::
   u27 :: u28 :: u29 :: u30 :: u31 :: u32 :: u33 :: u34 :: u35 :: u36 :: u37 :: u38 :: u39 :: u40 :: u41 :: u42 :: u43 :: u44 :: u45 :: u46 :: u47 :: u48 :: u49 :: u50 :: u51 :: u52 :: u53 :: u54 :: u55 :: u56 :: u57 :: u58 :: u59 :: u60 :: u61 :: u62 :: u63 ::
   u64 :: u65 :: u66 :: u67 :: u68 :: u69 :: u70 :: u71 :: u72 :: u73 :: u74 :: (.slice (some ⟨bR, oR, none⟩) L cr) :: (.int .i64 (L : Int)) :: x77 :: x78 :: x79 :: x80 :: x81 :: x82 :: x83 :: x84 :: x85 :: x86 :: x87 :: x88 :: x89 :: x90 :: x91 :: x92 :: x93 ::
   x94 :: x95 :: x96 :: x97 :: x98 :: x99 :: x100 :: x101 :: x102 :: x103 :: x104 :: u105 :: u106 :: []), []⟩ w') :
  (Code.loop (loopBody Tryd.f74 3)).wp Tryd.prog Q ⟨List.toArray (u0 :: u1 :: u2 :: u3 :: u4 :: u5 :: u6 :: (.slice (some ⟨b0, o0, none⟩) n c) :: u8 :: (.pointer (some ⟨g9, 0, none⟩)) :: u10 :: u11 :: u12 :: (.int .i64 (k : Int)) :: u14 :: u15 :: u16 :: u17 :: u18 :: u19 :: u20 :: u21 :: u22 :: u23 :: u24 :: u25 :: u26 ::
   u27 :: u28 :: u29 :: u30 :: u31 :: u32 :: u33 :: u34 :: u35 :: u36 :: u37 :: u38 :: u39 :: u40 :: u41 :: u42 :: u43 :: u44 :: u45 :: u46 :: u47 :: u48 :: u49 :: u50 :: u51 :: u52 :: u53 :: u54 :: u55 :: u56 :: u57 :: u58 :: u59 :: u60 :: u61 :: u62 :: u63 ::
   u64 :: u65 :: u66 :: u67 :: u68 :: u69 :: u70 :: u71 :: u72 :: u73 :: u74 :: (.slice (some ⟨bR, oR, none⟩) L cr) :: (.int .i64 (L : Int)) :: (.int .i64 0) :: u78 :: u79 :: u80 :: u81 :: u82 :: u83 :: u84 :: u85 :: u86 :: u87 :: u88 :: u89 :: u90 :: u91 :: u92 ::
   u93 :: u94 :: u95 :: u96 :: u97 :: u98 :: u99 :: u100 :: u101 :: u102 :: u103 :: u104 :: u105 :: u106 :: []), []⟩ w := by
 conv => arg 2; arg 1; whnf
 have hX0H := hide hX0
 have hP0H := hide hP0
 have hB0H := hide hB0
 have h9H := hide h9
 have hclH := hide hcl
 have hrowH := hide hrow
 have hkqH := hide hkq
 have hcltH := hide hclt
 have hMH := hide hM
 have hlenH := hide hlen
 have hrlH := hide hrl
 have h9nH := hide h9n
 have hb0H := hide hb0
 have hbRH := hide hbR
 clear hX0 hP0 hB0 h9 hcl hrow hkq hclt hM hlen hrl h9n hb0 hbR
 go_loopw [77] (fun jj wx => ∃ (x : Nat) (u : Nat → Nat → Value) (l : Nat → Nat → List Int), jj = .int .i64 (x : Int) ∧ x ≤ L ∧ Hid (NetX (fun b => b = gn ∨ b = ga) w5 wx cnt L gn gi u l) ∧ Hid (MgP n L cnt nx (fun i => cl.getD i 0) q x l) ∧ Hid (Blk wx ga 4 (ms.map Value.bool).toArray)) (fun jj _ => L - (intOf jj).toNat)
 case atStart => exact ⟨0, u, l, rfl, Nat.zero_le _, hX0H, hP0H, hB0H⟩
 case round =>
  rename World => wx
  obtain ⟨x, u, l, rfl, hx, hX, hP, hBx⟩ := hrel
  have hKX2 := hX.out.kept
  by_cases hxL : x < L
  ·have hb9x := h9H.out.kept hKX2 (by rintro (e | e); exact h9nH.out.1 e; exact h9nH.out.2 e)
   have hc9x := hb9x.cell
   obtain ⟨y, hy⟩ := get_lt (l := row) (i := x) (by rw [hrlH.out]; exact hxL)
   obtain ⟨hcR0, hyn, hyd⟩ := hrowH.out x y hy
   obtain ⟨z, hz⟩ := get_lt (l := cl) (i := y) (by rw [hlenH.out]; exact hyn)
   have hcR : wx.cell? ⟨bR, oR + x, none⟩ = some (.int .i64 (y : Int)) := (hKX2.cell (p := ⟨bR, oR + x, none⟩) hbRH.out.1 (by rintro (e | e); exact hbRH.out.2.1 e; exact hbRH.out.2.2 e)).trans hcR0
   have hcz : wx.cell? ⟨b0, o0 + y, none⟩ = some (.int .i64 (z : Int)) := (hKX2.cell (p := ⟨b0, o0 + y, none⟩) hb0H.out.1 (by rintro (e | e); exact hb0H.out.2.1 e; exact hb0H.out.2.2 e)).trans (hclH.out y z hz)
   have hyd2 := hide hyd
   have hzd : Hid (cl.getD y 0 = z) := getD_some hz
   have hown := hX.out.own k hk x hxL
   obtain ⟨Au, cu, hu⟩ := slice_of_own hown
   have hml9 := hP.out.len hMH.out hcltH.out hk hxL
   rw [hu] at hown
   obtain ⟨m0, hm0⟩ : ∃ m0, m0 = (l k x).length := ⟨_, rfl⟩
   rw [← hm0] at hown hu hml9
   have hcn : wx.cell? ⟨gn, k, none⟩ = some (.slice (some ⟨gi k, 0, none⟩) L L) := by rw [hX.out.top.cell, rangeC_get _ hk]
   have hcu : wx.cell? ⟨gi k, x, none⟩ = some (.slice Au m0 cu) := by rw [(hX.out.row k hk).1.cell, rangeC_get _ hxL, hu]
   have hsx := hX.out.kept.size
   have hb9xH := hide hb9x
   have huH := hide hu
   have hm0H := hide hm0
   clear hy hcR0 hyd hz hu hm0 hb9x hKX2
   go_wp2_with fail
   refine Reg.cC [0, 1, 0, 7, 15, 0, 0, 64, 0, 448, 960, 0, 4032, 8128, 0, 0, 49152, 114688, 245760, 524224, 1048512, 2097151, 4194303] [0, 1, 2, 3, 4, 5, 6, 7, 8, 9, 10, 11, 12, 13, 14, 15, 16, 17, 18, 19, 20, 21, 22] ?_ (by kernel_rfl) (by repeat (first | exact hN | refine Reg.NoQ.then ?_ | refine Reg.NoQ.inBlock ?_))
   refine Reg.rest_walk' [0, 1, 2, 3, 4, 5, 6, 7, 8, 9, 10, 11, 12, 13, 14, 15, 16, 17, 18] [19, 20, 21, 22] rfl (by kernel_rfl) ?_
   intro Qf hQf
   go_wp2_with fail
   first | refine hQf _ _ ?_ | skip
   try clear hQf
   refine Reg.rest_act' 19 [20, 21, 22] [1, 4] rfl (by kernel_rfl) ?_
   intro Qf hQf
   simp only [gT, gS, gZ]
   refine wpList_app_new (w := wx.drew) row3 rfl _ _ rfl w5.heap.size (.slice Au m0 cu) m0 _ rfl hown [.int .i64 (z : Int)] 1 rfl rfl (by simp [Value.oneCell']) (by omega) hsx ?_
   intro g cap w7 hown7 hk7 hmv7 hg7
   have hk7' : Kept wx w7 (fun k => (Value.slice Au m0 cu).ownBlock = some k) := ⟨hk7.os, hk7.tape, hk7.output, hk7.size, hk7.block⟩
   have q9 := (hb9xH.out.kept hk7' (own_blk_ne hown hb9xH.out (by decide))).cell
   have qn : w7.cell? ⟨gn, k, none⟩ = some (.slice (some ⟨gi k, 0, none⟩) L L) := (hk7'.cell hX.out.top.lt (own_blk_ne hown hX.out.top (by decide))).trans hcn
   have r9 := ((hb9xH.out.kept ((Kept.refl wx (fun _ => False)).alloc (.cells #[.int .i64 (z : Int)] 3)).drew id)).cell
   have rn : ((wx.alloc (.cells #[.int .i64 (z : Int)] 3)).drew).cell? ⟨gn, k, none⟩ = some (.slice (some ⟨gi k, 0, none⟩) L L) := (((Kept.refl wx (fun _ => False)).alloc (.cells #[.int .i64 (z : Int)] 3)).drew.cell hX.out.top.lt id).trans hcn
   refine hQf _ _ ⟨?_, ?_⟩
   ·intro z1 hz1 q1 hq1
    simp only [List.mem_cons, List.not_mem_nil, or_false] at hz1
    rcases hz1 with rfl | rfl
    ·injection hq1 with hq1
     subst hq1
     exact Reg.same_load1 rfl rfl (r9 1) (q9 1) Tryd.underlying77 rfl
    ·injection hq1 with hq1
     subst hq1
     exact Reg.same_load1 rfl rfl rn qn Tryd.underlying50 rfl
   ·clear hQf q9 qn r9 rn
    have hlz : (l k x).map (Value.int .i64) ++ [.int .i64 (z : Int)] = (l k x ++ [(z : Int)]).map (Value.int .i64) := by simp
    have hown8 := hown7
    rw [hlz] at hown8
    have hR1 := own_slI (l := l k x ++ [(z : Int)]) hown8 (by rw [List.length_append, ← hm0H.out]; rfl) (Nat.le_refl _) (by omega)
    obtain ⟨A7, c7, e7, hS7⟩ := hR1
    have hl7 : (l k x ++ [(z : Int)]).length = m0 + 1 := by rw [List.length_append, ← hm0H.out]; rfl
    rw [hl7] at e7
    injection e7 with e71 e72 e73
    subst e71 e73
    have hsort := sorted_any (c := cap) hS7 (by rw [hl7]; omega)
    rw [hl7] at hsort
    obtain ⟨l', hl'⟩ : ∃ l', l' = sortU (l k x ++ [(z : Int)]) := ⟨_, rfl⟩
    rw [← hl'] at hsort
    have hl'H := hide hl'
    have hrow7 := hide ((hX.out.row k hk).1.kept hk7' (own_blk_ne hown (hX.out.row k hk).1 (by decide)))
    have hBx7 := hide (hBx.out.kept hk7' (own_blk_ne hown hBx.out (by decide)))
    have hk7H := hide hk7'
    have s7 := hk7'.size
    clear hown7 hown8 hk7 hk7' hmv7 hlz hS7 hl7 hl' hc9x hcR hcz hcn hcu hown
    refine Reg.rest_act' 20 [21, 22] [1, 4] rfl (by kernel_rfl) ?_
    intro Qf hQf
    simp only [gT, gS, gZ]
    go_wp2_with fail
    refine Calls.ret hsort ?_
    rintro r w8 ⟨ho8, hb8⟩
    obtain ⟨A8, c8, rfl⟩ := slice_of_own ho8
    have s8 := hb8.size
    have hk8 : Kept wx w8 (fun b => (u k x).ownBlock = some b) := by
     rw [huH.out]
     exact hk7H.out.trans (Kept.of_below hb8 (fun _ => False)) fun _ _ e => e.elim
    have hput := hide (hX.out.put (f := k) (y := x) (v' := .slice A8 l'.length c8) (l' := l') hk hxL hk8 (own_mono ho8 (by omega)) (fun g hg => by have := own_base ho8 hg; omega))
    have hrow8 := hrow7.out.below hb8
    have hfr8 := hrow8.frozen x
    have hcr8 : w8.cell? ⟨gi k, x, none⟩ = some (u k x) := by rw [hrow8.cell, rangeC_get _ hxL]
    have hlr8 := hrow8.lt
    have hBx8 := hide ((hBx7.out.below hb8).kept ((Kept.refl w8 (fun b => b = gi k)).setCell (p := ⟨gi k, x, none⟩) (fun _ => rfl) (.slice A8 l'.length c8)) ((hBx7.out.below hb8).ne_ hrow8 (by decide)))
    have hPn : Hid (MgP n L cnt nx (fun i => cl.getD i 0) q (x + 1) (up2 l k x l')) := by
     have h1 : MgP n L cnt nx (fun i => cl.getD i 0) q (x + 1) (up2 l (cl.getD q 0) x (sortU (l (cl.getD q 0) x ++ [(cl.getD (nx q x) 0 : Int)]))) := hP.out.put hq hxL (asc_sortU _) (fun z' => by rw [mem_sortU, List.mem_append, List.mem_singleton]) (by show cl.getD q 0 < cnt; rw [hkqH.out]; exact hk)
     rw [hkqH.out, hyd2.out, hzd.out, ← hl'H.out] at h1
     exact h1
    obtain ⟨m8, hm8⟩ : ∃ m8, m8 = l'.length := ⟨_, rfl⟩
    rw [← hm8] at hput hBx8 ⊢
    clear hm8 hsort ho8 hk8 hrow8
    go_wp2_with fail
    first | refine hQf _ _ ⟨Reg.same_below hb8 _ rfl, ?_⟩ | refine ⟨Reg.same_below hb8 _ rfl, ?_⟩
    try clear hQf
    clear hb8
    refine Reg.rest_walk' [21, 22] [] rfl (by kernel_rfl) ?_
    intro Qf hQf
    go_wp2_with fail
    first | refine hQf _ _ ?_ | skip
    try clear hQf
    refine Reg.rest_end ?_
    go_wp2_with fail
    exact ⟨⟨x + 1, _, _, by go_num, by omega, hput, hPn, hBx8⟩, by simp [intOf]; omega⟩
  ·obtain rfl : x = L := by omega
   go_wp2_with fail
   refine hQ _ _ _ _ _ _ _ _ _ _ _ _ _ _ _ _ _ _ _ _ _ _ _ _ _ _ _ _ _ _ wx u l hX.out hP.out hBx.out
end Go.Proofs.YtpmceapjnnkhjaaDoor
namespace Go.Proofs.YtpmceapjnnkhjaaDoor
open Go.RowKit
set_option maxHeartbeats 16000000
set_option maxRecDepth 100000
theorem mset {w : World} {g : Nat} {m : List Bool} (h : Blk w g 4 (m.map Value.bool).toArray) (i : Nat) (v : Bool) : Blk (w.setCell ⟨g, i, none⟩ (.bool v)) g 4 ((m.set i v).map Value.bool).toArray := by
 have := h.set_ i (.bool v)
 rw [show ((m.map Value.bool).toArray).setIfInBounds i (.bool v) = ((m.set i v).map Value.bool).toArray by
  apply Array.ext'
  simp [List.map_set]] at this
 exact this
theorem merged_any {w : World} {v : Value} {L dp : Nat} {t : List (List Nat)} {ac : List Bool} (h : IsDF w w.heap.size v t ac) (hok : DOK L t ac) (hL1 : 1 ≤ L) (hL : L ≤ 8) (hn : ac.length ≤ 400) (hdp : dp ≤ 8) (hT : PowT w) :
  Calls Tryd.prog 74 #[v, .int .i64 (dp : Int), .int .i64 (L : Int)] w (Ret fun r w' => Below w.heap.size w w' ∧ ∃ (f : Nat → Nat) (a : NF), (∀ i j, i < ac.length → j < ac.length → (f i = f j ↔ EqW L (dnx t) (dac ac) dp i j)) ∧ Mg L ac.length (dnx t) (dac ac) f a ∧ a.OK ∧ a.n ≤ 400 ∧ (∀ s x, s < a.n → x < a.L → (a.to s x).length ≤ 400) ∧ a.start.length ≤ 400 ∧ IsNF w' w'.heap.size r a) := by
 have hDF := hide h
 obtain ⟨A1, c1, A2, c2, rfl, h1, h2⟩ := h
 obtain ⟨w1, hw1, hb1, hB1, hk1⟩ := box_blk w #[.slice A1 t.length c1, .slice A2 ac.length c2] 72
 obtain ⟨w2, hw2, hb2, hB2, hk2⟩ := box_blk w1 #[.int .i64 0, .slice none 0 0, .slice none 0 0, .slice none 0 0] 79
 have hs1 := hb1.size
 have hb02 : Below w.heap.size w w2 := hb1.trans (hb2.mono hs1)
 have hs2 := hb02.size
 have hD := hide (hB1.below hb2)
 have hR := hide hB2
 have hlt := hB1.lt
 have hM := hide (fun q x (hq : q < ac.length) (hx : x < L) => hok.lt hq hx)
 have hout : Calls Tryd.prog 96 #[.agg #[.slice A1 t.length c1, .slice A2 ac.length c2]] w2 (Ret fun r w' => Below w2.heap.size w2 w' ∧ ∃ A c, r = .tuple #[.slice A ac.length c, .int .i64 ((dd ac).length : Int)] ∧ Sl w' w'.heap.size 1 encI A (natL (cRow ac))) := outputs_any (hDF.out.keep (fun p hp => hb02.cell hp) hs2) (by omega)
 have hspl : ∀ (wx : World) (A : Option Addr) (c r cnt : Nat) (cl : List Nat), Below w.heap.size w wx → Sl wx wx.heap.size 1 encI A (natL cl) → ClsAt L ac.length (dnx t) (dac ac) r cl cnt → Calls Tryd.prog 97 #[.agg #[.slice A1 t.length c1, .slice A2 ac.length c2], .slice A ac.length c] wx (Ret fun r' w' => Below wx.heap.size wx w' ∧ ∃ (A' : Option Addr) (c' : Nat) (cl' : List Nat) (cnt' : Nat), r' = .tuple #[.slice A' ac.length c', .int .i64 (cnt' : Int)] ∧ Sl w' w'.heap.size 1 encI A' (natL cl') ∧ ClsAt L ac.length (dnx t) (dac ac) (r + 1) cl' cnt') := fun wx A c r cnt cl hb hS hC => by
  refine Calls.ret (split_any (hDF.out.keep (fun p hp => hb.cell hp) hb.size) hok hS (Nat.le_refl _) hC.len (fun x hx => by have := (hC.mem x).1 hx; have := hC.le; omega) hL (by omega) (hT.below hb)) ?_
  rintro r' w' ⟨hb', A', c', e, hS'⟩
  exact ⟨hb', A', c', _, _, e, hS', split_cls (fun q x hq hx => hok.lt hq hx) hC⟩
 have hC0H := hide (outs_cls L (dnx t) ac)
 have htl := hok.len
 have hokH := hide hok
 have h1H := hide h1
 have h2H := hide h2
 obtain ⟨n, hne⟩ : ∃ n, n = ac.length := ⟨_, rfl⟩
 have hnH := hide hne
 rw [htl] at hw1 hD hout hspl ⊢
 rw [← hne] at hw1 hD hout hspl hn ⊢
 have hsplH := hide hspl
 clear hspl h1 h2 hk1 hk2 hb1 hb2 hB1 hB2 hne hok hT htl
 go_enter Tryd.func74, Tryd.ntmps74
 have hc2 := hD.out.cell
 go_wp2_with fail
 refine Calls.ret hout ?_
 rintro r w3 ⟨hb3, A, c, rfl, hS3⟩
 have hb03 := hide (hb02.trans (hb3.mono hs2))
 have hD3 := hide (hD.out.below (hb3.mono (Nat.le_refl _)))
 have hR3 := hide (hR.out.below (hb3.mono (Nat.le_refl _)))
 have hS3H := hide hS3
 clear hout hS3 hc2 hb3 hD hR
 go_wp2_with fail
 go_loopw [7, 8, 22] (fun vv cc ii wr => ∃ (r cnt c : Nat) (A : Option Addr) (cl : List Nat), vv = .slice A n c ∧ cc = .int .i64 (cnt : Int) ∧ ii = .int .i64 (r : Int) ∧ r ≤ dp ∧ cnt ≤ n ∧ Hid (Below w.heap.size w wr) ∧ Hid (Blk wr w.heap.size 72 #[.slice A1 n c1, .slice A2 n c2]) ∧ Hid (Blk wr w1.heap.size 79 #[.int .i64 0, .slice none 0 0, .slice none 0 0, .slice none 0 0]) ∧ Hid (Sl wr wr.heap.size 1 encI A (natL cl)) ∧ Hid (ClsAt L n (dnx t) (dac ac) r cl cnt)) (fun _ _ ii _ => dp - (intOf ii).toNat)
 case atStart => exact ⟨0, (dd ac).length, c, A, cRow ac, rfl, rfl, rfl, Nat.zero_le _, by have := hC0H.out.le; have := hnH.out; omega, hb03, hD3, hR3, hS3H, by rw [hnH.out]; exact hC0H⟩
 case round =>
  obtain ⟨r, cnt, c, A, cl, rfl, rfl, rfl, hr, hcn, hBr, hDr, hRr, hSr, hCr⟩ := hrel
  have hcr := hDr.out.cell
  by_cases hlt2 : r < dp
  ·go_wp2_with fail
   refine Calls.ret (hsplH.out _ _ _ _ _ _ hBr.out hSr.out hCr.out) ?_
   rintro r' w4 ⟨hb4, A', c', cl', cnt', rfl, hS4, hC4⟩
   have hBr4 := hide (hBr.out.trans (hb4.mono hBr.out.size))
   have hD4 := hide (hDr.out.below (hb4.mono (Nat.le_refl _)))
   have hR4 := hide (hRr.out.below (hb4.mono (Nat.le_refl _)))
   have hle := hC4.le
   have hS4H := hide hS4
   have hC4H := hide hC4
   clear hb4 hS4 hC4
   go_wp2_with fail
   exact ⟨⟨r + 1, cnt', c', A', cl', rfl, rfl, by go_num, by omega, hle, hBr4, hD4, hR4, hS4H, hC4H⟩, by simp [intOf]; omega⟩
  ·obtain rfl : dp = r := by omega
   have hn0 : 0 < n := by have := hokH.out.pos; have := hnH.out; omega
   obtain ⟨k0, hk0⟩ := get_lt (l := cl) (i := 0) (by rw [hCr.out.len]; exact hn0)
   obtain ⟨b0, o0, rfl, hb0, hc0⟩ := sl_natat hSr.out hk0
   have hc00 : wr.cell? ⟨b0, o0, none⟩ = some (.int .i64 (k0 : Int)) := hc0
   go_wp2_with fail
   refine mrg_rows (by omega) hc00 hn0 (by repeat (first | exact Reg.NoQ.body (fun _ _ h => h) (fun _ h => h) | refine Reg.NoQ.then ?_ | refine Reg.NoQ.inBlock ?_)) ?_
   iterate 10 (intro _)
   intro w5 g9 gn gs ga hA
   have b9 := hA.blk _ (List.mem_cons_self)
   have bn := hA.blk _ (List.mem_cons_of_mem _ List.mem_cons_self)
   have bs := hA.blk _ (List.mem_cons_of_mem _ (List.mem_cons_of_mem _ List.mem_cons_self))
   have ba := hA.blk _ (List.mem_cons_of_mem _ (List.mem_cons_of_mem _ (List.mem_cons_of_mem _ List.mem_cons_self)))
   have hb25 := hA.below
   have hnd := hA.nodup
   simp only [List.map_cons, List.map_nil, List.nodup_cons, List.mem_cons, List.not_mem_nil, not_or, or_false, List.nodup_nil, not_false_eq_true, and_true] at hnd
   dsimp only at b9 bn bs ba
   rw [replR] at bn
   have hNA : Hid (NetA w5 w5 cnt L 0 gn (fun _ => 0)) := by
    refine ⟨Kept.refl _ _, ?_, fun s hs => absurd hs (by omega), fun s hs => absurd hs (by omega)⟩
    rw [rangeC_congr (g := fun _ => Value.slice none 0 0) (fun s _ => by simp)]
    exact bn.1
   have hb9H := hide b9
   have hbnH := hide bn
   have hbsH := hide bs
   have hbaH := hide ba
   have hb05 := hide (hBr.out.trans (hb25.mono hBr.out.size))
   have hD5 := hide (hDr.out.below (hb25.mono (Nat.le_refl _)))
   have hR5 := hide (hRr.out.below (hb25.mono (Nat.le_refl _)))
   have hS5 := hide (hSr.out.keep (w' := w5) (fun p hp => hb25.cell hp) hb25.size)
   have hc9 := b9.1.cell
   have hk0H : Hid (cl.getD 0 0 = k0) := getD_some hk0
   clear b9 bn bs ba hA hb25 hk0 hc0
   go_wp2_with fail
   go_loopw [44] (fun ii wr => ∃ (i : Nat) (gi : Nat → Nat), ii = .int .i64 (i : Int) ∧ i ≤ cnt ∧ Hid (NetA w5 wr cnt L i gn gi)) (fun ii _ => cnt - (intOf ii).toNat)
   case atStart => exact ⟨0, _, rfl, Nat.zero_le _, hNA⟩
   case round =>
    rename World => wz
    obtain ⟨i, gi, rfl, hi, hN⟩ := hrel
    have hK := hN.out.kept
    have hb9r := b3r_of hb9H.out.1 hbnH.out.1 hK (by decide)
    have hcr := hb9r.cell
    by_cases hlt3 : i < cnt
    ·have hkr := hide hK
     have hb9rH := hide hb9r
     clear hK hb9r
     go_wp2_with fail
     refine Reg.cC [0, 1, 0, 0, 8, 31, 63] [0, 1, 2, 3, 4, 5, 6] ?_
     refine Reg.rest_walk' [0, 1, 2, 3] [4, 5, 6] rfl (by kernel_rfl) ?_
     intro Qf hQf
     go_wp2_with fail
     first | refine hQf _ _ ?_ | skip
     try clear hQf
     refine Reg.rest_act' 4 [5, 6] [1] rfl (by kernel_rfl) ?_
     intro Qf hQf
     simp only [gT, gS, gZ]
     refine wpList_make Tryd.underlying50 info22 (by omega) (by omega) L (by omega) rfl _ _ rfl rfl rfl ?_
     intro gr w6 hb6 hBd6 hgr6
     first | refine hQf _ _ ⟨Reg.same_below hBd6 _ rfl, ?_⟩ | refine ⟨Reg.same_below hBd6 _ rfl, ?_⟩
     try clear hQf
     have hBd7 : Below wz.heap.size wz w6 := (drewB wz).trans hBd6
     rw [show (Value.slice none 0 0).cells = #[Value.slice none 0 0] from rfl, madeR] at hb6
     have hst := hide (hN.out.step hlt3 hBd7 hb6 hgr6)
     have htop := (hN.out.top.below hBd7)
     have hfr := htop.frozen i
     have hct : w6.cell? ⟨gn, i, none⟩ = some (.slice none 0 0) := by rw [htop.cell, rangeC_get _ hlt3, if_neg (by omega)]
     have hlt6 := htop.lt
     clear htop
     refine Reg.rest_walk' [5, 6] [] rfl (by kernel_rfl) ?_
     intro Qf hQf
     go_wp2_with fail
     first | refine hQf _ _ ?_ | skip
     try clear hQf
     refine Reg.rest_end ?_
     go_wp2_with fail
     exact ⟨⟨i + 1, up1 gi i gr, by go_num, by omega, hst⟩, by simp [intOf]; omega⟩
    ·obtain rfl : cnt = i := by omega
     have hNX : Hid (NetX (fun k => k = gn ∨ k = ga) w5 wz cnt L gn gi (fun _ _ => .slice none 0 0) (fun _ _ => [])) := hN.out.done.toX (.inl rfl)
     have hbne : ga ≠ gn := fun e => by omega
     have hA0 : Hid (Blk wz ga 4 (((List.replicate cnt false)).map Value.bool).toArray) := by
      have := hbaH.out.1.kept hK (by omega)
      rw [← List.map_replicate] at this
      exact this
     have hm0 : Hid ((List.replicate cnt false).length = cnt) := List.length_replicate
     have hDz := hide (b3r_of hD5.out hbnH.out.1 hK (by decide))
     have hcD := hDz.out.cell
     have hclt := hide (fun q (hq : q < n) => hCr.out.val hq)
     have hsz5 := hb05.out.size
     have g9ne : Hid (g9 ≠ gn ∧ g9 ≠ ga) := ⟨fun e => by omega, fun e => by omega⟩
     have gsne : Hid (gs ≠ gn ∧ gs ≠ ga) := ⟨fun e => by omega, fun e => by omega⟩
     clear hN hK hb9r hcr
     go_wp2_with fail
     go_loopw [57] (fun ii wy => ∃ (q : Nat) (u : Nat → Nat → Value) (l : Nat → Nat → List Int) (m : List Bool), ii = .int .i64 (q : Int) ∧ q ≤ n ∧ Hid (NetX (fun k => k = gn ∨ k = ga) w5 wy cnt L gn gi u l) ∧ Hid (MgP n L cnt (dnx t) (fun i => cl.getD i 0) q 0 l) ∧ Hid (Blk wy ga 4 (m.map Value.bool).toArray) ∧ Hid (MgA n (dac ac) (fun i => cl.getD i 0) q m) ∧ Hid (m.length = cnt)) (fun ii _ => n - (intOf ii).toNat)
     case atStart => exact ⟨0, _, _, _, rfl, Nat.zero_le _, hNX, hide MgP.start, hA0, hide (MgA.start _ _ _ _), hm0⟩
     case round =>
      rename World => wy
      obtain ⟨q, u, l, m, rfl, hq, hX, hP2, hBa, hMA, hml⟩ := hrel
      have hKX := hX.out.kept
      have hb9y := hide (hb9H.out.1.kept hKX (by rintro (e | e); exact g9ne.out.1 e; exact g9ne.out.2 e))
      have hDy := hide (hD5.out.kept hKX (by have h1 := hbnH.out.2; have h2 := hbaH.out.2; have h3 := hDr.out.lt; rintro (e | e) <;> omega))
      have hc9y := hb9y.out.cell
      have hcDy := hDy.out.cell
      by_cases hqn : q < n
      ·have hqa : q < ac.length := by rw [← hnH.out]; exact hqn
       have h15 := VSl.keep (@R1n.keep) h1H.out (w' := w5) (fun p hp => hb05.out.cell hp) hb05.out.size
       obtain ⟨br, or_, Ar, cr, row, rfl, hbr, hcr0, hrow, hrl, hrS, hrv⟩ := df_row h1H.out hokH.out hqa
       obtain ⟨b, hb⟩ := get_lt (l := ac) (i := q) hqa
       obtain ⟨ba, oa, rfl, hba, hca0⟩ := sl_boolat h2H.out hb
       obtain ⟨k, hk⟩ := get_lt (l := cl) (i := q) (by rw [hCr.out.len]; exact hqn)
       have hkc : k < cnt := by have := hclt.out q hqn; rw [getD_some hk] at this; exact this
       obtain ⟨-, hck0⟩ := sl_natcell hS5.out hk
       have h0y := hide (hb05.out.trans (hKX.below (B := w.heap.size) (by have := hb05.out.size; omega) (by have h1 := hbnH.out.2; have h2 := hbaH.out.2; have h3 := hBr.out.size; rintro b hb (e | e) <;> omega)))
       have hcr1 := (h0y.out.cell (p := ⟨br, or_ + q, none⟩) hbr).trans hcr0
       have hca1 := (h0y.out.cell (p := ⟨ba, oa + q, none⟩) hba).trans hca0
       have hck1 : wy.cell? ⟨b0, o0 + q, none⟩ = some (.int .i64 (k : Int)) := (hKX.cell (p := ⟨b0, o0 + q, none⟩) (by have := hb05.out.size; have := hbnH.out.2; have := hbnH.out.1.lt; simp only; omega) (by have h1 := hbnH.out.2; have h2 := hbaH.out.2; rintro (e | e) <;> simp only at e <;> omega)).trans hck0
       have hkl : k < m.length := by rw [hml.out]; exact hkc
       obtain ⟨bk, hbk⟩ := get_lt hkl
       have g1 := Marks.cell hBa.out hbk
       have g2 := hBa.out.frozen k
       have g3 := hBa.out.lt
       have hkq : Hid (cl.getD q 0 = k) := getD_some hk
       have hbq : Hid (dac ac q = b) := getD_some hb
       obtain ⟨w6, hw6⟩ : ∃ w6, w6 = (wy.setCell ⟨ga, k, none⟩ (.bool b)).drew := ⟨_, rfl⟩
       have hk6 : Kept wy w6 (fun k => k = ga) := by rw [hw6]; exact ((Kept.refl wy (fun k => k = ga)).setCell (p := ⟨ga, k, none⟩) (fun _ => rfl) (.bool b)).drew
       have hX6 := hide (hX.out.marks (.inr rfl) hBa.out hk6)
       have hBa6 : Hid (Blk w6 ga 4 ((m.set k b).map Value.bool).toArray) := by rw [hw6]; exact (mset hBa.out k b).below (drewB _)
       have hMA6 : Hid (MgA n (dac ac) (fun i => cl.getD i 0) (q + 1) (m.set k b)) := by
        have := MgA.put hMA.out hqn (fun i j hi hj e => by
         have := (hCr.out.iff i j hi hj).1 e
         exact EqW.le (r := 0) dp (by rwa [Nat.zero_add]))
        rw [hbq.out] at this
        rw [hkq.out] at this
        exact this
       have hml6 : Hid ((m.set k b).length = cnt) := by show _ = _; rw [List.length_set]; exact hml.out
       have hrlH := hide hrl
       have hrSH := hide hrS
       have hrvH := hide hrv
       clear hrow hb hk hcr0 hca0 hck0 hbk hk6 hrl hrS hrv hkl
       go_wp2_with fail
       refine Reg.cP [0, 1, 0, 0, 8, 0, 56, 120, 255, 511] ?_
       go_wp2_with fail
       rw [← hw6]
       have hwH := hide hw6
       clear hw6
       go_wp2_with fail
       obtain ⟨y0, hy0⟩ := get_lt (l := row) (i := 0) (by rw [hrlH.out]; exact hL1)
       obtain ⟨bR, oR, rfl, hbR, -⟩ := sl_natat hrSH.out hy0
       have hz1 := hbnH.out.2
       have hz2 := hbaH.out.2
       have hz3 := hBr.out.size
       have hz4 := hbnH.out.1.lt
       refine mrg_x (nx := dnx t) (q := q) hX6.out hP2.out hBa6.out hb9H.out.1 g9ne.out (fun y z hz => (sl_natcell hS5.out hz).2) ⟨by omega, by omega, by omega⟩ (row := row) (fun x y hy => ⟨(hb05.out.cell (p := ⟨bR, oR + x, none⟩) hbR).trans (sl_natcell hrSH.out hy).2, by rw [hnH.out]; exact (hrvH.out x y hy).1, (hrvH.out x y hy).2⟩) ⟨by omega, by omega, by omega⟩ hqn hkq.out hkc (fun s hs => hclt.out s hs) (fun s x hs hx => by
        have h1 := hM.out s x (by rw [← hnH.out]; exact hs) hx
        rw [hnH.out]; exact h1) hCr.out.len hrlH.out (by omega) hL (by repeat (first | exact Reg.NoQ.body (fun _ _ h => h) (fun _ h => h) | refine Reg.NoQ.then ?_ | refine Reg.NoQ.inBlock ?_)) ?_
       iterate 30 (intro _)
       intro wx u2 l2 hX3 hP3 hB3
       have hX4 := hide hX3
       have hP4 := hide hP3.next
       have hB4 := hide hB3
       clear hX3 hP3 hB3
       go_wp2_with fail
       exact ⟨⟨q + 1, u2, l2, _, by go_num, by omega, hX4, hP4, hB4, hMA6, hml6⟩, by simp [intOf]; omega⟩
      ·obtain rfl : q = n := by omega
       have hRy := hR5.out.kept hKX (by have h1 := hbnH.out.2; have h2 := hbaH.out.2; have h3 := hRr.out.lt; rintro (e | e) <;> omega)
       have h0y := hb05.out.trans (hKX.below (B := w.heap.size) (by have := hb05.out.size; omega) (by have h1 := hbnH.out.2; have h2 := hbaH.out.2; have h3 := hBr.out.size; rintro b hb (e | e) <;> omega))
       have hfR := hRy.frozen
       have hlR := hRy.lt
       have hcRy := hRy.cell
       obtain ⟨wF, hwF, hBF, hKF⟩ := set4t_facts hRy (.int .i64 (L : Int)) (.slice (some ⟨gn, 0, none⟩) cnt cnt) (.slice (some ⟨gs, 0, none⟩) 1 1) (.slice (some ⟨ga, 0, none⟩) cnt cnt)
       have hBFc := hBF.cell
       have hres : Hid (Below w.heap.size w wF ∧ ∃ (f : Nat → Nat) (a : NF), (∀ i j, i < q → j < q → (f i = f j ↔ EqW L (dnx t) (dac ac) dp i j)) ∧ Mg L q (dnx t) (dac ac) f a ∧ a.OK ∧ a.n ≤ 400 ∧ (∀ s x, s < a.n → x < a.L → (a.to s x).length ≤ 400) ∧ a.start.length ≤ 400 ∧ IsNF wF wF.heap.size (.agg #[.int .i64 (L : Int), .slice (some ⟨gn, 0, none⟩) cnt cnt, .slice (some ⟨gs, 0, none⟩) 1 1, .slice (some ⟨ga, 0, none⟩) cnt cnt]) a) := by
        have hbF : Below w.heap.size w wF := h0y.trans (hKF.below h0y.size fun b hb e => by omega)
        have hMq : ∀ s x, s < q → x < L → dnx t s x < q := fun s x hs hx => by
         have h1 := hM.out s x (by rw [← hnH.out]; exact hs) hx
         rw [hnH.out]; exact h1
        have hfq : ∀ s, s < q → cl.getD s 0 < cnt := fun s hs => hclt.out s hs
        have hq0 : 0 < q := by have := hokH.out.pos; have := hnH.out; omega
        have hlen : ∀ k x, k < cnt → x < L → (l k x).length ≤ cnt := fun k x hk hx => hP2.out.len hMq hfq hk hx
        have hMg : Mg L q (dnx t) (dac ac) (fun i => cl.getD i 0) ⟨L, (List.range cnt).map fun k => (List.range L).map fun x => l k x, [(cl.getD 0 0 : Int)], m⟩ := mgP_mg hP2.out hMA.out hml.out hfq
        have h2ne : ∀ g t cs, Blk wy g t cs → t ≠ 79 → g ≠ w1.heap.size := fun g t cs hB hne => hB.ne_ hRy hne
        have hXr := hX.out
        have hrd := net_read (B := wF.heap.size) (hXr.top.kept hKF (h2ne _ _ _ hXr.top (by decide))) (fun s hs => (hXr.row s hs).1.kept hKF (h2ne _ _ _ (hXr.row s hs).1 (by decide))) (fun s hs x hx => own_ty hKF (hXr.own s hs x hx) (fun g cs e hB => by subst e; exact hB.ne_ hRy (by decide) rfl)) (Nat.le_refl _) (by omega) (by omega) (fun s hs x hx => by have := hlen s x hs hx; omega)
        have hgs1 := hbsH.out.1.kept hKX (by rintro (e | e); exact gsne.out.1 e; exact gsne.out.2 e)
        have hgs2 := hgs1.kept hKF (h2ne _ _ _ hgs1 (by decide))
        obtain ⟨A1', c1', e1, hS0⟩ := own_slI (B := wF.heap.size) (l := [(k0 : Int)]) (base := 0) (own_of_blk (n := 1) hgs2 (Nat.zero_le _) rfl (by omega)) rfl (Nat.le_refl _) (by omega)
        have hbaF := hBa.out.kept hKF (hBa.out.ne_ hRy (by decide))
        obtain ⟨A3', c3', e3, hS3⟩ := Marks.sl (B := wF.heap.size) ⟨ga, hbaF.lt, rfl, hbaF⟩ (by rw [hml.out]; omega)
        refine ⟨hbF, fun i => cl.getD i 0, _, fun i j hi hj => hCr.out.iff i j hi hj, hMg, ⟨?_, ?_, ?_, ?_⟩, ?_, ?_, by simp, ?_⟩
        ·show m.length = ((List.range cnt).map _).length
         rw [hml.out]; simp
        ·intro r hr
         obtain ⟨k, -, rfl⟩ := List.mem_map.1 hr
         simp
        ·intro r hr l' hl' z hz
         obtain ⟨k, hk, rfl⟩ := List.mem_map.1 hr
         obtain ⟨x, hx, rfl⟩ := List.mem_map.1 hl'
         obtain ⟨s, hs, -, -, rfl⟩ := (hP2.out.mem k x (List.mem_range.1 hk) (List.mem_range.1 hx) z).1 hz
         have := hfq _ (hMq s x hs (List.mem_range.1 hx))
         rw [inN_iff]
         simp only [NF.n, List.length_map, List.length_range]
         omega
        ·intro z hz
         rw [List.mem_singleton.1 hz, inN_iff]
         have := hfq 0 hq0
         simp only [NF.n, List.length_map, List.length_range]
         omega
        ·simp only [NF.n, List.length_map, List.length_range]
         omega
        ·intro s x hs hx
         simp only [NF.n, List.length_map, List.length_range] at hs hx
         have e : (NF.mk L ((List.range cnt).map fun k => (List.range L).map fun x => l k x) [(cl.getD 0 0 : Int)] m).to s x = l s x := by
          unfold NF.to
          rw [getD_some (map_get (List.getElem?_range hs)), getD_some (map_get (List.getElem?_range hx))]
         rw [e]
         have := hlen s x hs hx
         omega
        ·refine ⟨some ⟨gn, 0, none⟩, cnt, some ⟨gs, 0, none⟩, 1, some ⟨ga, 0, none⟩, cnt, by simp [hml.out], hrd, ?_, ?_, by simp⟩
         ·injection e1 with e1 _ _
          subst e1
          rw [hk0H.out]
          exact hS0
         ·injection e3 with e3 _ _
          subst e3
          exact hS3
       have hwH := hide hwF
       clear hBF hKF hwF hRy h0y hX hP2 hBa hMA hml hKX
       go_wp2_with fail
       change bodyPost _ _ _ _ _ (set4t wy w1.heap.size (.int .i64 (L : Int)) (.slice (some ⟨gn, 0, none⟩) cnt cnt) (.slice (some ⟨gs, 0, none⟩) 1 1) (.slice (some ⟨ga, 0, none⟩) cnt cnt))
       rw [hwH.out]
       exact bodyPost_ret (v := .agg #[.int .i64 (L : Int), .slice (some ⟨gn, 0, none⟩) cnt cnt, .slice (some ⟨gs, 0, none⟩) 1 1, .slice (some ⟨ga, 0, none⟩) cnt cnt]) (by simp [results, Tryd.results74, go_sem, hBFc]) rfl hres.out
end Go.Proofs.YtpmceapjnnkhjaaDoor
