/-
  Part XE of a proof.
-/
import Derived.Test.YtpmceapjnnkhjaaGreatDoorPA
import Derived.Test.YtpmceapjnnkhjaaGreatDoorXC
import Derived.Test.YtpmceapjnnkhjaaGreatDoorXB
set_option maxHeartbeats 16000000
set_option maxRecDepth 100000
set_option linter.unusedVariables false
set_option linter.unusedSimpArgs false
namespace Go.Proofs.YtpmceapjnnkhjaaGreatDoor
open Go.RowKit
set_option maxHeartbeats 16000000
set_option maxRecDepth 100000
theorem info23 : (Tryz.prog.info? 26).map (fun i => (i.zero, i.size, i.bytes)) = some (some (.slice none 0 0), 1, 24) := by kernel_rfl
theorem im_rows {w : World} {g2 g6 gn N L : Nat} {x1 x2 x3 x4 y0 y2 y3 : Value} (hA : NetA w w N L 0 gn (fun _ => 0)) (h2 : Blk w g2 25 #[.int .i64 (L : Int), x1, x2, x3, x4]) (h6 : Blk w g6 56 #[y0, .slice (some ⟨gn, 0, none⟩) N N, y2, y3]) (hN9 : N ≤ 200000) (hL : L ≤ 8)
  {u0 u1 u3 u4 u5 u7 u8 u9 u10 u11 u12 u13 u14 u15 u16 u17 u18 u19 u20 u21 u22 u23 u24 u25 u26 u27 u28 u29 u30 u31 u32 u33 u34 u35 u36 u37 u38 u39 u40 u41 u42 u43 u44 u47 u48 u49 u50 u51 u52 u53 u54 u55 u56 u57 u58 u59 u60 u61 u62 u63 u64 u65 u66 u67 u68 u69 u70 u71 u72 u73 u74 u75 u76 u77 u78 u79 u80 u81 u82 u83 u84 u85 u86 u87 u88 u89 u90 u91 u92 u93 u94 u95 u96 u97 u98 u99 u100 u101 u102 u103 u104 u105 u106 u107 u108 u109 u110 u111 u112 u113 u114 u115 u116 u117 u118 u119 u120 u121 u122 u123 u124 u125 u126 u127 u128 u129 u130 u131 u132 : Value}
  {Q : Exit → Act → World → Prop} (hN : Reg.NoQ Q)
  (hQ : ∀ (x7 x46 x47 x48 x49 x50 x51 x52 x53 x54 x55 x56 : Value) (w' : World) (gi : Nat → Nat), NetA w w' N L N gn gi → Q (.exit 0) ⟨List.toArray (u0 :: u1 :: (.pointer (some ⟨g2, 0, none⟩)) :: u3 :: u4 :: u5 :: (.pointer (some ⟨g6, 0, none⟩)) :: x7 :: u8 :: u9 :: u10 :: u11 :: u12 :: u13 :: u14 :: u15 :: u16 :: u17 :: u18 :: u19 :: u20 :: u21 :: u22 :: u23 :: u24 :: u25 :: u26 :: u27 :: u28 :: u29 ::
   u30 :: u31 :: u32 :: u33 :: u34 :: u35 :: u36 :: u37 :: u38 :: u39 :: u40 :: u41 :: u42 :: u43 :: u44 :: (.int .i64 (N : Int)) :: x46 :: x47 :: x48 :: x49 :: x50 :: x51 :: x52 :: x53 :: x54 :: x55 :: x56 :: u57 :: u58 :: u59 :: u60 :: u61 :: u62 :: u63 :: u64 ::
   u65 :: u66 :: u67 :: u68 :: u69 :: u70 :: u71 :: u72 :: u73 :: u74 :: u75 :: u76 :: u77 :: u78 :: u79 :: u80 :: u81 :: u82 :: u83 :: u84 :: u85 :: u86 :: u87 :: u88 :: u89 :: u90 :: u91 :: u92 :: u93 :: u94 :: u95 :: u96 :: u97 :: u98 :: u99 :: u100 :: u101 ::
   u102 :: u103 :: u104 :: u105 :: u106 :: u107 :: u108 :: u109 :: u110 :: u111 :: u112 :: u113 :: u114 :: u115 :: u116 :: u117 :: u118 :: u119 :: u120 :: u121 :: u122 :: u123 :: u124 :: u125 :: u126 :: u127 :: u128 :: u129 :: u130 :: u131 :: u132 :: []), []⟩ w') :
  (Code.loop (loopBody Tryz.f24 0)).wp Tryz.prog Q ⟨List.toArray (u0 :: u1 :: (.pointer (some ⟨g2, 0, none⟩)) :: u3 :: u4 :: u5 :: (.pointer (some ⟨g6, 0, none⟩)) :: u7 :: u8 :: u9 :: u10 :: u11 :: u12 :: u13 :: u14 :: u15 :: u16 :: u17 :: u18 :: u19 :: u20 :: u21 :: u22 :: u23 :: u24 :: u25 :: u26 :: u27 :: u28 :: u29 ::
   u30 :: u31 :: u32 :: u33 :: u34 :: u35 :: u36 :: u37 :: u38 :: u39 :: u40 :: u41 :: u42 :: u43 :: u44 :: (.int .i64 (N : Int)) :: (.int .i64 0) :: u47 :: u48 :: u49 :: u50 :: u51 :: u52 :: u53 :: u54 :: u55 :: u56 :: u57 :: u58 :: u59 :: u60 :: u61 :: u62 ::
   u63 :: u64 :: u65 :: u66 :: u67 :: u68 :: u69 :: u70 :: u71 :: u72 :: u73 :: u74 :: u75 :: u76 :: u77 :: u78 :: u79 :: u80 :: u81 :: u82 :: u83 :: u84 :: u85 :: u86 :: u87 :: u88 :: u89 :: u90 :: u91 :: u92 :: u93 :: u94 :: u95 :: u96 :: u97 :: u98 :: u99 ::
   u100 :: u101 :: u102 :: u103 :: u104 :: u105 :: u106 :: u107 :: u108 :: u109 :: u110 :: u111 :: u112 :: u113 :: u114 :: u115 :: u116 :: u117 :: u118 :: u119 :: u120 :: u121 :: u122 :: u123 :: u124 :: u125 :: u126 :: u127 :: u128 :: u129 :: u130 :: u131 :: u132 ::
   []), []⟩ w := by
 conv => arg 2; arg 1; whnf
 have hAH := hide hA
 have h2H := hide h2
 have h6H := hide h6
 have htop := hide hA.top
 clear hA h2 h6
 go_loopw [46] (fun ii wr => ∃ (i : Nat) (gi : Nat → Nat), ii = .int .i64 (i : Int) ∧ i ≤ N ∧ Hid (NetA w wr N L i gn gi)) (fun ii _ => N - (intOf ii).toNat)
 case atStart => exact ⟨0, _, rfl, Nat.zero_le _, hAH⟩
 case round =>
  obtain ⟨i, gi, rfl, hi, hN1⟩ := hrel
  have hK := hN1.out.kept
  have hb2r := b3r_of h2H.out htop.out hK (by decide)
  have hb6r := b3r_of h6H.out htop.out hK (by decide)
  have hc2 := hb2r.cell
  have hc6 := hb6r.cell
  by_cases hlt : i < N
  ·clear hK hb2r hb6r
   go_wp2_with fail
   refine Reg.cC [0, 1, 0, 0, 8, 24, 63, 127] [0, 1, 2, 3, 4, 5, 6, 7] ?_ (by kernel_rfl) (by repeat (first | exact hN | refine Reg.NoQ.then ?_ | refine Reg.NoQ.inBlock ?_))
   refine Reg.rest_walk' [0, 1, 2, 3, 4] [5, 6, 7] rfl (by kernel_rfl) ?_
   intro Qf hQf
   go_wp2_with fail
   first | refine hQf _ _ ?_ | skip
   try clear hQf
   refine Reg.rest_act' 5 [6, 7] [1] rfl (by kernel_rfl) ?_
   intro Qf hQf
   simp only [gT, gS, gZ]
   refine wpList_make Tryz.underlying49 info22 (by omega) (by omega) L (by omega) rfl _ _ rfl rfl rfl ?_
   intro gr w5 hb5 hBd5 hgr5
   first | refine hQf _ _ ⟨Reg.same_below hBd5 _ rfl, ?_⟩ | refine ⟨Reg.same_below hBd5 _ rfl, ?_⟩
   try clear hQf
   have hBd6 : Below wr.heap.size wr w5 := (drewB wr).trans hBd5
   rw [show (Value.slice none 0 0).cells = #[Value.slice none 0 0] from rfl, madeR] at hb5
   have hst := hide (hN1.out.step hlt hBd6 hb5 hgr5)
   have htop5 := (hN1.out.top.below hBd6)
   have hfr := htop5.frozen i
   have hct : w5.cell? ⟨gn, i, none⟩ = some (.slice none 0 0) := by rw [htop5.cell, rangeC_get _ hlt, if_neg (by omega)]
   have hlt5 := htop5.lt
   clear htop5
   refine Reg.rest_walk' [6, 7] [] rfl (by kernel_rfl) ?_
   intro Qf hQf
   go_wp2_with fail
   first | refine hQf _ _ ?_ | skip
   try clear hQf
   refine Reg.rest_end ?_
   go_wp2_with fail
   exact ⟨⟨i + 1, up1 gi i gr, by go_num, by omega, hst⟩, by simp [intOf]; omega⟩
  ·have hni : i = N := by omega
   subst hni
   have hfin := hide hN1.out
   clear hN1 hK hb2r hb6r
   go_wp2_with fail
   first | exact hfin.out | exact hQ _ _ _ _ _ _ _ _ _ _ _ _ wr gi hfin.out
structure BukM (w0 wr : World) (L ge : Nat) (u : Nat → Value) (l : Nat → List Edg) : Prop where
 kept : Kept w0 wr (fun k => k = ge)
 top : Blk wr ge 26 (rangeC L u)
 own : ∀ x, x < L → wr.ownsRow w0.heap.size 65 3 (u x) (l x).length ((l x).flatMap eC)
 sep : ∀ x, x < L → ∀ x', x' < L → ∀ g, (u x).ownBlock = some g → (u x').ownBlock = some g → x = x'
theorem BukM.start {w : World} {L ge : Nat} (h : Blk w ge 26 (rangeC L fun _ => .slice none 0 0)) : BukM w w L ge (fun _ => .slice none 0 0) (fun _ => []) :=
 ⟨Kept.refl _ _, h, fun _ _ => own_nil, fun _ _ _ _ g hg => by simp [Value.ownBlock] at hg⟩
theorem BukM.keep {w0 wr w2 : World} {L ge : Nat} {u : Nat → Value} {l : Nat → List Edg} (h : BukM w0 wr L ge u l) (hb : Below wr.heap.size wr w2) : BukM w0 w2 L ge u l :=
 ⟨h.kept.trans (Kept.of_below hb (fun _ => False)) fun _ _ e => e.elim, h.top.below hb, fun x hx => own_below (h.own x hx) hb, h.sep⟩
theorem BukM.step {w0 wr w2 : World} {L ge y : Nat} {u : Nat → Value} {l : Nat → List Edg} (h : BukM w0 wr L ge u l) (hy : y < L) {v' : Value} {e : Edg}
  (hk : Kept wr w2 (fun k => (u y).ownBlock = some k)) (ho : w2.ownsRow w0.heap.size 65 3 v' ((l y).length + 1) ((l y).flatMap eC ++ eC e)) (hmv : Moved wr (u y) v') :
  BukM w0 (w2.setCell ⟨ge, y, none⟩ v') L ge (up1 u y v') (up1 l y (l y ++ [e])) := by
 have hof := h.own y hy
 have hs := h.kept.size
 have hk2 := (Kept.refl w2 (fun k => k = ge)).setCell (p := ⟨ge, y, none⟩) (fun _ => rfl) v'
 have ht2 : Blk w2 ge 26 (rangeC L u) := h.top.kept hk (own_blk_ne hof h.top (by decide))
 have hlt : ∀ x, x < L → ∀ g, (u x).ownBlock = some g → g < wr.heap.size := fun x hx g hg => own_lt (h.own x hx) hg
 have hnew : ∀ x, x < L → x ≠ y → ∀ g, v'.ownBlock = some g → (u x).ownBlock ≠ some g := fun x hx hne g hg e => by
  rcases hmv with h1 | ⟨g', h1, h2⟩
  ·exact hne (h.sep x hx y hy g e (by rw [← h1]; exact hg))
  ·rw [hg] at h1
   have := hlt x hx g e
   injection h1 with h1
   omega
 refine ⟨(h.kept.trans hk fun b hb e => by have := own_base hof e; omega).trans hk2 fun b hb e => e, ?_, fun x hx => ?_, fun x h2 x' h4 g hg hg' => ?_⟩
 ·have h1 := ht2.set_ y v'
  rw [rangeC_set] at h1
  exact h1
 ·by_cases e' : x = y
  ·subst e'
   rw [show up1 u x v' x = v' from if_pos rfl, show up1 l x (l x ++ [e]) x = l x ++ [e] from if_pos rfl, List.length_append, List.flatMap_append]
   refine own_ty hk2 ?_ (fun g cs hg hB => by subst hg; exact hB.ne_ ht2 (by decide) rfl)
   simpa using ho
  ·rw [show up1 u y v' x = u x from if_neg e', show up1 l y (l y ++ [e]) x = l x from if_neg e']
   exact own_ty hk2 (hk.ownsRow (h.own x hx) fun g hg hx' => e' (h.sep x hx y hy g hg hx')) (fun g cs hg hB => by subst hg; exact hB.ne_ ht2 (by decide) rfl)
 ·by_cases e1 : x = y <;> by_cases e2 : x' = y
  ·exact e1.trans e2.symm
  ·rw [e1, show up1 u y v' y = v' from if_pos rfl] at hg
   rw [show up1 u y v' x' = u x' from if_neg e2] at hg'
   exact absurd hg' (hnew x' h4 e2 g hg)
  ·rw [e2, show up1 u y v' y = v' from if_pos rfl] at hg'
   rw [show up1 u y v' x = u x from if_neg e1] at hg
   exact absurd hg (hnew x h2 e1 g hg')
  ·rw [show up1 u y v' x = u x from if_neg e1] at hg
   rw [show up1 u y v' x' = u x' from if_neg e2] at hg'
   exact h.sep x h2 x' h4 g hg hg'
def WA.by (a : WA) (k y : Nat) : List Edg := (a.edges.take k).filter fun e => decide (e.letter = (y : Int))
theorem WA.by_zero (a : WA) : a.by 0 = fun _ => [] := by funext y; simp [WA.by]
theorem WA.by_succ (a : WA) {k y : Nat} {f to : Int} (h : a.edges[k]? = some ⟨f, (y : Int), to⟩) : a.by (k + 1) = up1 (a.by k) y (a.by k y ++ [⟨f, (y : Int), to⟩]) := by
 funext x
 unfold WA.by up1
 rw [take_snoc h, List.filter_append]
 by_cases e : x = y
 ·rw [if_pos e, e]; simp
 ·rw [if_neg e]
  have : decide ((y : Int) = (x : Int)) = false := by simp; omega
  simp [this]
theorem WA.by_len (a : WA) (k y : Nat) : (a.by k y).length ≤ k := Nat.le_trans (List.length_filter_le _ _) (List.length_take_le _ _)
theorem im_buck {w0 w : World} {ge L n : Nat} {c3 B : Nat} {A3 : Option Addr} {a : WA} (hM : BukM w w L ge (fun _ => .slice none 0 0) (fun _ => [])) (h3 : Sl w B 3 encE A3 a.edges) (hB : B ≤ w0.heap.size) (h0 : Below w0.heap.size w0 w) (hge : w0.heap.size ≤ ge) (hn : n = a.edges.length) (hin : ∀ e ∈ a.edges, inN L e.letter = true) (hL : L ≤ 8) (hn9 : n ≤ 3000000)
  {u0 u1 u2 u3 u4 u5 u6 u7 u9 u10 u11 u12 u13 u14 u15 u16 u17 u18 u19 u20 u21 u22 u23 u24 u25 u26 u27 u28 u29 u30 u31 u32 u33 u34 u35 u36 u37 u38 u39 u40 u41 u42 u43 u44 u45 u46 u47 u48 u49 u50 u51 u52 u53 u54 u55 u56 u57 u58 u59 u60 u64 u65 u66 u67 u68 u69 u70 u71 u72 u73 u74 u75 u76 u77 u78 u79 u80 u81 u82 u83 u84 u85 u86 u87 u88 u89 u90 u91 u92 u93 u94 u95 u96 u97 u98 u99 u100 u101 u102 u103 u104 u105 u106 u107 u108 u109 u110 u111 u112 u113 u114 u115 u116 u117 u118 u119 u120 u121 u122 u123 u124 u125 u126 u127 u128 u129 u130 u131 u132 : Value}
  {Q : Exit → Act → World → Prop} (hN : Reg.NoQ Q)
  (hQ : ∀ (x10 x63 x64 x65 x66 x67 x68 x69 x70 x71 x72 x73 x74 x75 x76 x77 x78 x79 : Value) (w' : World) (u : Nat → Value), BukM w w' L ge u (a.by n) → Q (.exit 2) ⟨List.toArray (u0 :: u1 :: u2 :: u3 :: u4 :: u5 :: u6 :: u7 :: (.slice (some ⟨ge, 0, none⟩) L L) :: u9 :: x10 :: u11 :: u12 :: u13 :: u14 :: u15 :: u16 :: u17 :: u18 :: u19 :: u20 :: u21 :: u22 :: u23 :: u24 :: u25 :: u26 :: u27 :: u28 :: u29 :: u30 :: u31 :: u32 :: u33 ::
   u34 :: u35 :: u36 :: u37 :: u38 :: u39 :: u40 :: u41 :: u42 :: u43 :: u44 :: u45 :: u46 :: u47 :: u48 :: u49 :: u50 :: u51 :: u52 :: u53 :: u54 :: u55 :: u56 :: u57 :: u58 :: u59 :: u60 :: (.slice A3 n c3) :: (.int .i64 (n : Int)) :: x63 :: x64 :: x65 :: x66 ::
   x67 :: x68 :: x69 :: x70 :: x71 :: x72 :: x73 :: x74 :: x75 :: x76 :: x77 :: x78 :: x79 :: u80 :: u81 :: u82 :: u83 :: u84 :: u85 :: u86 :: u87 :: u88 :: u89 :: u90 :: u91 :: u92 :: u93 :: u94 :: u95 :: u96 :: u97 :: u98 :: u99 :: u100 :: u101 :: u102 :: u103 ::
   u104 :: u105 :: u106 :: u107 :: u108 :: u109 :: u110 :: u111 :: u112 :: u113 :: u114 :: u115 :: u116 :: u117 :: u118 :: u119 :: u120 :: u121 :: u122 :: u123 :: u124 :: u125 :: u126 :: u127 :: u128 :: u129 :: u130 :: u131 :: u132 :: []), []⟩ w') :
  (Code.loop (loopBody Tryz.f24 1)).wp Tryz.prog Q ⟨List.toArray (u0 :: u1 :: u2 :: u3 :: u4 :: u5 :: u6 :: u7 :: (.slice (some ⟨ge, 0, none⟩) L L) :: u9 :: u10 :: u11 :: u12 :: u13 :: u14 :: u15 :: u16 :: u17 :: u18 :: u19 :: u20 :: u21 :: u22 :: u23 :: u24 :: u25 :: u26 :: u27 :: u28 :: u29 :: u30 :: u31 :: u32 :: u33 ::
   u34 :: u35 :: u36 :: u37 :: u38 :: u39 :: u40 :: u41 :: u42 :: u43 :: u44 :: u45 :: u46 :: u47 :: u48 :: u49 :: u50 :: u51 :: u52 :: u53 :: u54 :: u55 :: u56 :: u57 :: u58 :: u59 :: u60 :: (.slice A3 n c3) :: (.int .i64 (n : Int)) :: (.int .i64 0) :: u64 ::
   u65 :: u66 :: u67 :: u68 :: u69 :: u70 :: u71 :: u72 :: u73 :: u74 :: u75 :: u76 :: u77 :: u78 :: u79 :: u80 :: u81 :: u82 :: u83 :: u84 :: u85 :: u86 :: u87 :: u88 :: u89 :: u90 :: u91 :: u92 :: u93 :: u94 :: u95 :: u96 :: u97 :: u98 :: u99 :: u100 :: u101 ::
   u102 :: u103 :: u104 :: u105 :: u106 :: u107 :: u108 :: u109 :: u110 :: u111 :: u112 :: u113 :: u114 :: u115 :: u116 :: u117 :: u118 :: u119 :: u120 :: u121 :: u122 :: u123 :: u124 :: u125 :: u126 :: u127 :: u128 :: u129 :: u130 :: u131 :: u132 :: []), []⟩ w := by
 conv => arg 2; arg 1; whnf
 have hMH := hide hM
 have hnH := hide hn
 have hinH := hide hin
 have hln := h3.1
 rw [← hn] at hln
 clear hM hn hin
 go_loopw [63] (fun ii wr => ∃ (k : Nat) (u : Nat → Value), ii = .int .i64 (k : Int) ∧ k ≤ n ∧ Hid (BukM w wr L ge u (a.by k))) (fun ii _ => n - (intOf ii).toNat)
 case atStart => exact ⟨0, _, rfl, Nat.zero_le _, by rw [a.by_zero]; exact hMH⟩
 case round =>
  obtain ⟨k, u, rfl, hk, hI⟩ := hrel
  by_cases hlt : k < n
  ·obtain ⟨bl, off, ⟨f, y0, to⟩, rfl, hbk, hxk, hc⟩ := h3.at (k := k) (by rw [← hnH.out]; exact hlt)
   have hb0r : Below w0.heap.size w0 wr := h0.trans (hI.out.kept.below h0.size fun b hb e => by omega)
   have hcc := fun j hj => ((hI.out.kept.below h0.size (fun b hb e => by omega)).cell (show bl < w0.heap.size by omega)).trans (hc j hj)
   have e0 := hcc 0 (by omega)
   have e1 := hcc 1 (by omega)
   have e2 := hcc 2 (by omega)
   simp only [Nat.add_zero, encE] at e0 e1 e2
   obtain ⟨y, hy0, hy⟩ := inN_nat (hinH.out _ (List.mem_of_getElem? hxk))
   dsimp only at hy0 hy
   subst hy0
   have hy : y < L := by simpa using hy
   have hbs := hide (WA.by_succ a hxk)
   have hbl := hide (WA.by_len a k y)
   obtain ⟨w5, hw5, hb5, hB5, hk5⟩ := box_blk wr #[.int .i64 f, .int .i64 (y : Int), .int .i64 to] 65
   have hM5 := hI.out.keep hb5
   have hc5 := hB5.cell
   have hown5 := hM5.own y hy
   obtain ⟨Au, cu, hu⟩ := slice_of_own hown5
   have hct5 : w5.cell? ⟨ge, y, none⟩ = some (.slice Au (a.by k y).length cu) := by rw [hM5.top.cell, rangeC_get _ hy, hu]
   rw [hu] at hown5
   have hM5H := hide hM5
   have hB5H := hide hB5
   have hs5 := hide (show w.heap.size ≤ w5.heap.size from hM5.kept.size)
   have huH := hide hu
   have hm4 : (a.by k y).length ≤ 3000000 := by have := hbl.out; omega
   obtain ⟨m, hm⟩ : ∃ m, m = (a.by k y).length := ⟨_, rfl⟩
   rw [← hm] at hct5 hown5 hm4
   have hmH := hide hm
   have hub : Hid (∀ g, (Value.slice Au m cu).ownBlock = some g → g < wr.heap.size) := by
    intro g e
    refine own_lt (hI.out.own y hy) (k := g) ?_
    rw [hu, ← hmH.out]
    exact e
   clear hm hc hcc hxk hM5 hB5 hk5 hu hb5 hb0r
   go_wp2_with fail
   refine Reg.cC [0, 0, 2, 0, 0, 16, 56, 120, 0, 256, 1016, 2047, 4095] [0, 1, 2, 3, 4, 5, 6, 7, 8, 9, 10, 11, 12] ?_ (by kernel_rfl) (by repeat (first | exact hN | refine Reg.NoQ.then ?_ | refine Reg.NoQ.inBlock ?_))
   refine Reg.rest_walk' [0, 1, 2, 3, 4, 5, 6, 7, 8, 9] [10, 11, 12] rfl (by kernel_rfl) ?_
   intro Qf hQf
   go_wp2_with fail
   first | refine hQf _ _ ?_ | skip
   try clear hQf
   refine Reg.rest_act' 10 [11, 12] [2] rfl (by kernel_rfl) ?_
   intro Qf hQf
   simp only [gT, gS, gZ]
   refine wpList_app_new (w := w5.drew) row35 rfl _ _ rfl w.heap.size (.slice Au m cu) m _ rfl hown5 [.int .i64 f, .int .i64 (y : Int), .int .i64 to] 1 rfl rfl (by simp [Value.oneCell']) (by omega) hs5.out ?_
   intro g cap w6 hown6 hk6 hmv6 hg6
   have hk6' : Kept w5 w6 (fun k => (Value.slice Au m cu).ownBlock = some k) := ⟨hk6.os, hk6.tape, hk6.output, hk6.size, hk6.block⟩
   have hmv6' : Moved w5 (.slice Au m cu) (.slice (some ⟨g, 0, none⟩) (m + 1) cap) := hmv6
   have hst := hide (show BukM w (w6.setCell ⟨ge, y, none⟩ (.slice (some ⟨g, 0, none⟩) (m + 1) cap)) L ge (up1 u y (.slice (some ⟨g, 0, none⟩) (m + 1) cap)) (a.by (k + 1)) from by
    rw [hbs.out]
    refine hM5H.out.step hy ?_ ?_ ?_
    ·rw [huH.out, ← hmH.out]; exact hk6'
    ·rw [← hmH.out]; exact hown6
    ·rw [huH.out, ← hmH.out]; exact hmv6')
   have q5 : w6.cell? ⟨wr.heap.size, 1, none⟩ = some (.int .i64 (y : Int)) := (hk6'.cell (p := ⟨wr.heap.size, 1, none⟩) hB5H.out.lt (fun e => absurd (hub.out _ e) (Nat.lt_irrefl _))).trans (hB5H.out.cell 1)
   have r5 := ((hB5H.out.kept ((Kept.refl w5 (fun _ => False)).alloc (.cells #[.int .i64 f, .int .i64 (y : Int), .int .i64 to] 65)).drew id)).cell
   have htop6 := hM5H.out.top.kept hk6' (own_blk_ne hown5 hM5H.out.top (by decide))
   have hfr6 := htop6.frozen y
   have hct6 : w6.cell? ⟨ge, y, none⟩ = some (u y) := by rw [htop6.cell, rangeC_get _ hy]
   have hlt6 := htop6.lt
   refine hQf _ _ ⟨?_, ?_⟩
   ·intro z hz q hq
    simp only [List.mem_cons, List.not_mem_nil, or_false] at hz
    subst hz
    injection hq with hq
    subst hq
    exact Reg.same_load1 rfl rfl (r5 1) q5 Tryz.underlying3 rfl
   ·clear hQf q5 r5 htop6 hown6 hk6 hk6' hmv6 hmv6' hc5 hct5
    refine Reg.rest_walk' [11, 12] [] rfl (by kernel_rfl) ?_
    intro Qf hQf
    go_wp2_with fail
    first | refine hQf _ _ ?_ | skip
    try clear hQf
    refine Reg.rest_end ?_
    go_wp2_with fail
    exact ⟨⟨k + 1, _, by go_num, by omega, hst⟩, by simp [intOf]; omega⟩
  ·obtain rfl : k = n := by omega
   have hfin := hide hI.out
   clear hI
   go_wp2_with fail
   first | exact hfin.out | exact hQ _ _ _ _ _ _ _ _ _ _ _ _ _ _ _ _ _ _ wr u hfin.out
end Go.Proofs.YtpmceapjnnkhjaaGreatDoor
namespace Go.Proofs.YtpmceapjnnkhjaaGreatDoor
open Go.RowKit
set_option maxHeartbeats 16000000
set_option maxRecDepth 100000
structure BukR (wr : World) (base L ge : Nat) (u : Nat → Value) (l : Nat → List Edg) : Prop where
 top : Blk wr ge 26 (rangeC L u)
 own : ∀ x, x < L → wr.ownsRow base 65 3 (u x) (l x).length ((l x).flatMap eC)
theorem BukR.kept {wr w' : World} {base L ge : Nat} {u : Nat → Value} {l : Nat → List Edg} {X : Nat → Prop} (h : BukR wr base L ge u l) (hk : Kept wr w' X) (h1 : ∀ g cs, X g → ¬ Blk wr g 26 cs) (h2 : ∀ g cs, X g → ¬ Blk wr g 65 cs) : BukR w' base L ge u l :=
 ⟨h.top.kept hk fun e => h1 _ _ e h.top, fun x hx => own_ty hk (h.own x hx) h2⟩
def toL (es : List Edg) (s x : Nat) : List Int := (es.filter fun e => decide (e.frm = (s : Int)) && decide (e.letter = (x : Int))).map (·.to)
theorem toL_nil : toL [] = fun _ _ => [] := by funext s x; rfl
theorem toL_snoc (es : List Edg) (f y : Nat) (to : Int) : toL (es ++ [⟨(f : Int), (y : Int), to⟩]) = up2 (toL es) f y (toL es f y ++ [to]) := by
 funext s x
 unfold toL
 rw [List.filter_append, List.map_append]
 unfold up2
 by_cases e : s = f ∧ x = y
 ·rw [if_pos e, e.1, e.2]; simp
 ·rw [if_neg e]
  have : (decide ((f : Int) = (s : Int)) && decide ((y : Int) = (x : Int))) = false := by
   rw [Bool.and_eq_false_iff]
   rcases Classical.not_and_iff_not_or_not.1 e with e | e
   ·exact .inl (by simp; omega)
   ·exact .inr (by simp; omega)
  simp [this]
theorem toL_len (es : List Edg) (s x : Nat) : (toL es s x).length ≤ es.length := by
 unfold toL
 rw [List.length_map]
 exact List.length_filter_le _ _
theorem toL_to (a : WA) : toL a.edges = a.to := rfl
structure ImM (w3 wr : World) (g6 N L gn ge base : Nat) (gi : Nat → Nat) (cs : Array Value) (ub : Nat → Value) (a : WA) (u : Nat → Nat → Value) (es : List Edg) : Prop where
 net : NetS w3 wr N L gn gi u (toL es)
 buk : BukR wr base L ge ub (a.by a.edges.length)
 box : Blk wr g6 56 cs
theorem ImM.keep {w3 wr w2 : World} {g6 N L gn ge base : Nat} {gi : Nat → Nat} {cs : Array Value} {ub : Nat → Value} {a : WA} {u : Nat → Nat → Value} {es : List Edg} (h : ImM w3 wr g6 N L gn ge base gi cs ub a u es) (hb : Below wr.heap.size wr w2) : ImM w3 w2 g6 N L gn ge base gi cs ub a u es :=
 ⟨h.net.keep hb, h.buk.kept (Kept.of_below hb (fun _ => False)) (fun _ _ e => e.elim) (fun _ _ e => e.elim), h.box.below hb⟩
theorem ImM.step {w3 wr w2 : World} {g6 N L gn ge base f y : Nat} {gi : Nat → Nat} {cs : Array Value} {ub : Nat → Value} {a : WA} {u : Nat → Nat → Value} {es : List Edg} (h : ImM w3 wr g6 N L gn ge base gi cs ub a u es) (hf : f < N) (hy : y < L) {v' : Value} {to : Int}
  (hk : Kept wr w2 (fun k => (u f y).ownBlock = some k)) (ho : w2.ownsRow w3.heap.size 3 1 v' ((toL es f y).length + 1) ((toL es f y).map (Value.int .i64) ++ [.int .i64 to])) (hmv : Moved wr (u f y) v') :
  ImM w3 (w2.setCell ⟨gi f, y, none⟩ v') g6 N L gn ge base gi cs ub a (up2 u f y v') (es ++ [⟨(f : Int), (y : Int), to⟩]) ∧ ∀ g t cs, Blk wr g t cs → t ≠ 3 → t ≠ 22 → Blk (w2.setCell ⟨gi f, y, none⟩ v') g t cs := by
 have hof := h.net.own f hf y hy
 have hrf := (h.net.row f hf).1
 have hk2 := (Kept.refl w2 (fun k => k = gi f)).setCell (p := ⟨gi f, y, none⟩) (fun _ => rfl) v'
 have hall : Kept wr (w2.setCell ⟨gi f, y, none⟩ v') (fun k => (u f y).ownBlock = some k ∨ k = gi f) := (hk.mono fun _ _ e => .inl e).trans hk2 fun _ _ e => .inr e
 have hty : ∀ {t : TypeId}, t ≠ 3 → t ≠ 22 → ∀ g cs, ((u f y).ownBlock = some g ∨ g = gi f) → ¬ Blk wr g t cs := by
  rintro t h1 h2 g cs (e | e) hB
  ·exact own_blk_ne hof hB (fun hh => h1 hh.symm) e
  ·exact hB.ne_ hrf h2 e
 refine ⟨⟨?_, h.buk.kept hall (hty (by decide) (by decide)) (hty (by decide) (by decide)), h.box.kept hall fun e => hty (by decide) (by decide) _ _ e h.box⟩, fun g t cs hB h1 h2 => hB.kept hall fun e => hty h1 h2 _ _ e hB⟩
 rw [toL_snoc]
 exact h.net.step hf hy hk ho hmv
theorem im_in {w3 w : World} {g6 g12 N L gn ge base n fm tm om cB lb : Nat} {gi : Nat → Nat} {x0 x2 x3 xi : Value} {ub : Nat → Value} {a : WA} {u : Nat → Nat → Value} {es : List Edg} {AB : Option Addr} {m : Mv} {bl : List Edg}
  (hM : ImM w3 w g6 N L gn ge base gi #[x0, .slice (some ⟨gn, 0, none⟩) N N, x2, x3] ub a u es) (h12 : Blk w g12 95 #[.int .i64 (fm : Int), xi, .int .i64 (om : Int), .int .i64 (tm : Int)])
  (hbk : ∀ wr, BukR wr base L ge ub (a.by a.edges.length) → Sl wr wr.heap.size 3 encE AB bl) (hlb : lb = bl.length) (hin : ∀ e ∈ bl, ∃ f t : Nat, e.frm = (f : Int) ∧ f < n ∧ e.to = (t : Int) ∧ t < n) (hn : n ≤ 400) (hfN : (fm + 1) * n ≤ N) (hft : fm ≤ 400) (htm : tm ≤ 400) (hom : om < L) (hL : L ≤ 8) (hN9 : N ≤ 200000) (hes : es.length + lb ≤ 3000000) (hm : m = ⟨(fm : Int), m.inn, (om : Int), (tm : Int)⟩) (han : a.states = (n : Int))
  {u0 u1 u2 u3 u4 u7 u8 u9 u10 u11 u13 u14 u15 u16 u17 u18 u19 u20 u21 u22 u23 u24 u25 u26 u27 u28 u29 u30 u31 u32 u33 u34 u35 u36 u37 u38 u39 u40 u41 u42 u43 u44 u45 u46 u47 u48 u49 u50 u51 u52 u53 u54 u55 u56 u57 u58 u59 u60 u61 u62 u63 u64 u65 u66 u67 u68 u69 u70 u71 u72 u73 u74 u75 u76 u77 u78 u79 u80 u81 u82 u83 u84 u85 u86 u87 u88 u89 u90 u94 u95 u96 u97 u98 u99 u100 u101 u102 u103 u104 u105 u106 u107 u108 u109 u110 u111 u112 u113 u114 u115 u116 u117 u118 u119 u120 u121 u122 u123 u124 u125 u126 u127 u128 u129 u130 u131 u132 : Value}
  {Q : Exit → Act → World → Prop} (hN : Reg.NoQ Q)
  (hQ : ∀ (x14 x15 x93 x94 x95 x96 x97 x98 x99 x100 x101 x102 x103 x104 x105 x106 x107 x108 x109 x110 x111 x112 x113 x114 x115 x116 x117 x118 x119 x120 x121 x122 x123 x124 x125 x126 x127 x128 x129 x130 : Value) (w' : World) (u' : Nat → Nat → Value), ImM w3 w' g6 N L gn ge base gi #[x0, .slice (some ⟨gn, 0, none⟩) N N, x2, x3] ub a u' (es ++ bl.map (prE a.states m)) → Q (.exit 6) ⟨List.toArray (u0 :: u1 :: u2 :: u3 :: u4 :: (.int .i64 (n : Int)) :: (.pointer (some ⟨g6, 0, none⟩)) :: u7 :: u8 :: u9 :: u10 :: u11 :: (.pointer (some ⟨g12, 0, none⟩)) :: u13 :: x14 :: x15 :: u16 :: u17 :: u18 :: u19 :: u20 :: u21 :: u22 :: u23 :: u24 :: u25 :: u26 :: u27 ::
   u28 :: u29 :: u30 :: u31 :: u32 :: u33 :: u34 :: u35 :: u36 :: u37 :: u38 :: u39 :: u40 :: u41 :: u42 :: u43 :: u44 :: u45 :: u46 :: u47 :: u48 :: u49 :: u50 :: u51 :: u52 :: u53 :: u54 :: u55 :: u56 :: u57 :: u58 :: u59 :: u60 :: u61 :: u62 :: u63 :: u64 ::
   u65 :: u66 :: u67 :: u68 :: u69 :: u70 :: u71 :: u72 :: u73 :: u74 :: u75 :: u76 :: u77 :: u78 :: u79 :: u80 :: u81 :: u82 :: u83 :: u84 :: u85 :: u86 :: u87 :: u88 :: u89 :: u90 :: (.slice AB lb cB) :: (.int .i64 (lb : Int)) :: x93 :: x94 :: x95 :: x96 :: x97 ::
   x98 :: x99 :: x100 :: x101 :: x102 :: x103 :: x104 :: x105 :: x106 :: x107 :: x108 :: x109 :: x110 :: x111 :: x112 :: x113 :: x114 :: x115 :: x116 :: x117 :: x118 :: x119 :: x120 :: x121 :: x122 :: x123 :: x124 :: x125 :: x126 :: x127 :: x128 :: x129 :: x130 ::
   u131 :: u132 :: []), []⟩ w') :
  (Code.loop (loopBody Tryz.f24 3)).wp Tryz.prog Q ⟨List.toArray (u0 :: u1 :: u2 :: u3 :: u4 :: (.int .i64 (n : Int)) :: (.pointer (some ⟨g6, 0, none⟩)) :: u7 :: u8 :: u9 :: u10 :: u11 :: (.pointer (some ⟨g12, 0, none⟩)) :: u13 :: u14 :: u15 :: u16 :: u17 :: u18 :: u19 :: u20 :: u21 :: u22 :: u23 :: u24 :: u25 :: u26 :: u27 ::
   u28 :: u29 :: u30 :: u31 :: u32 :: u33 :: u34 :: u35 :: u36 :: u37 :: u38 :: u39 :: u40 :: u41 :: u42 :: u43 :: u44 :: u45 :: u46 :: u47 :: u48 :: u49 :: u50 :: u51 :: u52 :: u53 :: u54 :: u55 :: u56 :: u57 :: u58 :: u59 :: u60 :: u61 :: u62 :: u63 :: u64 ::
   u65 :: u66 :: u67 :: u68 :: u69 :: u70 :: u71 :: u72 :: u73 :: u74 :: u75 :: u76 :: u77 :: u78 :: u79 :: u80 :: u81 :: u82 :: u83 :: u84 :: u85 :: u86 :: u87 :: u88 :: u89 :: u90 :: (.slice AB lb cB) :: (.int .i64 (lb : Int)) :: (.int .i64 0) :: u94 :: u95 ::
   u96 :: u97 :: u98 :: u99 :: u100 :: u101 :: u102 :: u103 :: u104 :: u105 :: u106 :: u107 :: u108 :: u109 :: u110 :: u111 :: u112 :: u113 :: u114 :: u115 :: u116 :: u117 :: u118 :: u119 :: u120 :: u121 :: u122 :: u123 :: u124 :: u125 :: u126 :: u127 :: u128 ::
   u129 :: u130 :: u131 :: u132 :: []), []⟩ w := by
 conv => arg 2; arg 1; whnf
 have hMH := hide hM
 have h12H := hide h12
 have hbkH := hide hbk
 have hlbH := hide hlb
 have hinH := hide hin
 have hmH := hide hm
 have hanH := hide han
 have hfNH := hide hfN
 have hlb9 := (hbk w hM.buk).1
 rw [← hlb] at hlb9
 clear hM h12 hbk hlb hin hm han hfN
 go_loopw [93] (fun ii wr => ∃ (k : Nat) (u' : Nat → Nat → Value), ii = .int .i64 (k : Int) ∧ k ≤ lb ∧ Hid (ImM w3 wr g6 N L gn ge base gi #[x0, .slice (some ⟨gn, 0, none⟩) N N, x2, x3] ub a u' (es ++ (bl.take k).map (prE a.states m))) ∧ Hid (Blk wr g12 95 #[.int .i64 (fm : Int), xi, .int .i64 (om : Int), .int .i64 (tm : Int)])) (fun ii _ => lb - (intOf ii).toNat)
 case atStart => exact ⟨0, u, rfl, Nat.zero_le _, by simpa using hMH, h12H⟩
 case round =>
  obtain ⟨k, u', rfl, hk, hI, hB12⟩ := hrel
  by_cases hlt : k < lb
  ·obtain ⟨bB, off, ⟨f0, y0, t0⟩, rfl, hbB, hxk, hc⟩ := (hbkH.out wr hI.out.buk).at (k := k) (by rw [← hlbH.out]; exact hlt)
   have e0 := hc 0 (by omega)
   have e1 := hc 1 (by omega)
   have e2 := hc 2 (by omega)
   simp only [Nat.add_zero, encE] at e0 e1 e2
   obtain ⟨f, t, hf0, hf, ht0, ht⟩ := hinH.out _ (List.mem_of_getElem? hxk)
   dsimp only at hf0 ht0
   subst hf0 ht0
   have hsn := hide (show bl.take (k + 1) = bl.take k ++ [⟨(f : Int), y0, (t : Int)⟩] from take_snoc hxk)
   obtain ⟨F, hF⟩ : ∃ F, F = fm * n + f := ⟨_, rfl⟩
   have hFN : F < N := by have h1 := hfNH.out; rw [Nat.succ_mul] at h1; omega
   have hFc : (fm : Int) * (n : Int) + (f : Int) = (F : Int) := by rw [hF, Int.natCast_add, Int.natCast_mul]
   have hT : tm * n ≤ 400 * 400 := Nat.mul_le_mul htm hn
   have hFm : fm * n ≤ 400 * 400 := Nat.mul_le_mul hft hn
   have hpr := hide (show prE a.states m ⟨(f : Int), y0, (t : Int)⟩ = ⟨(F : Int), (om : Int), (tm : Int) * (n : Int) + (t : Int)⟩ from by
    rw [hmH.out, hanH.out]
    unfold prE
    rw [← hFc])
   obtain ⟨w5, hw5, hb5, hB5, hk5⟩ := box_blk wr #[.int .i64 (f : Int), .int .i64 y0, .int .i64 (t : Int)] 65
   have hM5 := hI.out.keep hb5
   have h125 := hB12.out.below hb5
   have hc5 := hB5.cell
   have hc12 := h125.cell
   have hc6 := hM5.box.cell
   have hown5 := hM5.net.own F hFN om hom
   obtain ⟨Au, cu, hu⟩ := slice_of_own hown5
   have hcn5 : w5.cell? ⟨gn, F, none⟩ = some (.slice (some ⟨gi F, 0, none⟩) L L) := by rw [hM5.net.top.cell, rangeC_get _ hFN]
   have hcr5 : w5.cell? ⟨gi F, om, none⟩ = some (.slice Au (toL (es ++ (bl.take k).map (prE a.states m)) F om).length cu) := by rw [(hM5.net.row F hFN).1.cell, rangeC_get _ hom, hu]
   rw [hu] at hown5
   have hM5H := hide hM5
   have hB5H := hide hB5
   have h125H := hide h125
   have hs5 := hide hM5.net.kept.size
   have huH := hide hu
   have hcn5H := hide hcn5
   have hm4 : (toL (es ++ (bl.take k).map (prE a.states m)) F om).length ≤ 3000000 := by
    have h1 := toL_len (es ++ (bl.take k).map (prE a.states m)) F om
    rw [List.length_append, List.length_map, List.length_take] at h1
    omega
   obtain ⟨ml, hml⟩ : ∃ ml, ml = (toL (es ++ (bl.take k).map (prE a.states m)) F om).length := ⟨_, rfl⟩
   rw [← hml] at hcr5 hown5 hm4
   have hmlH := hide hml
   have hFcH := hide hFc
   clear hml hc hxk hM5 hB5 hk5 hu hb5 h125 hF
   go_wp2_with fail
   refine Reg.cI [0, 1, 0, 7, 15, 0, 32, 0, 128, 0, 896, 1920, 0, 4096, 16256, 32640, 0, 65536, 0, 458752, 0, 1048576, 4128768, 8323072, 16777088, 33554431, 67108863] [0, 1, 2, 3, 4, 5, 6, 7, 8, 9, 10, 11, 12, 13, 14, 15, 16, 17, 18, 19, 20, 21, 22, 23, 24, 25, 26] ?_ (by kernel_rfl) (by repeat (first | exact hN | refine Reg.NoQ.then ?_ | refine Reg.NoQ.inBlock ?_))
   refine Reg.restI_walkE [0, 1, 2, 3, 4, 5, 6, 7, 8, 9, 10, 11, 12, 13, 14, 15, 16, 17, 18, 19, 20, 21, 22, 23] _ rfl rfl (by kernel_rfl) ?_
   intro Qf hQf
   go_wp2_with fail
   first | refine hQf _ _ ⟨rfl, ?_⟩ | refine ⟨rfl, ?_⟩
   try clear hQf
   refine Reg.restI_act 24 _ [1, 4, 6] rfl (by kernel_rfl) ?_
   intro Qf hQf
   simp only [gT, gS, gZ]
   refine wpList_app_new (w := w5.drew) row3 rfl _ _ rfl w3.heap.size (.slice Au ml cu) ml _ rfl hown5 [.int .i64 ((tm : Int) * (n : Int) + (t : Int))] 1 rfl rfl (by simp [Value.oneCell']) (by omega) hs5.out ?_
   intro g cap w6 hown6 hk6 hmv6 hg6
   have hk6' : Kept w5 w6 (fun k => (Value.slice Au ml cu).ownBlock = some k) := ⟨hk6.os, hk6.tape, hk6.output, hk6.size, hk6.block⟩
   have hmv6' : Moved w5 (.slice Au ml cu) (.slice (some ⟨g, 0, none⟩) (ml + 1) cap) := hmv6
   have hst := hide (hM5H.out.step hFN hom (v' := .slice (some ⟨g, 0, none⟩) (ml + 1) cap) (to := (tm : Int) * (n : Int) + (t : Int)) (by rw [huH.out, ← hmlH.out]; exact hk6') (by rw [← hmlH.out]; exact hown6) (by rw [huH.out, ← hmlH.out]; exact hmv6'))
   have h126 := hide (hst.out.2 _ _ _ h125H.out (by decide) (by decide))
   have q12 := (h125H.out.kept hk6' (own_blk_ne hown5 h125H.out (by decide))).cell
   have q6 := (hM5H.out.box.kept hk6' (own_blk_ne hown5 hM5H.out.box (by decide))).cell
   have qn : w6.cell? ⟨gn, F, none⟩ = some (.slice (some ⟨gi F, 0, none⟩) L L) := (hk6'.cell hM5H.out.net.top.lt (own_blk_ne hown5 hM5H.out.net.top (by decide))).trans hcn5H.out
   have hka := ((Kept.refl w5 (fun _ => False)).alloc (.cells #[.int .i64 ((tm : Int) * (n : Int) + (t : Int))] 3)).drew
   have r12 := (h125H.out.kept hka id).cell
   have r6 := (hM5H.out.box.kept hka id).cell
   have rn : ((w5.alloc (.cells #[.int .i64 ((tm : Int) * (n : Int) + (t : Int))] 3)).drew).cell? ⟨gn, F, none⟩ = some (.slice (some ⟨gi F, 0, none⟩) L L) := (hka.cell hM5H.out.net.top.lt id).trans hcn5H.out
   have hrow6 := (hM5H.out.net.row F hFN).1.kept hk6' (own_blk_ne hown5 (hM5H.out.net.row F hFN).1 (by decide))
   have hfr6 := hrow6.frozen om
   have hcr6 : w6.cell? ⟨gi F, om, none⟩ = some (u' F om) := by rw [hrow6.cell, rangeC_get _ hom]
   have hlr6 := hrow6.lt
   refine hQf _ _ ⟨?_, ?_⟩
   ·intro z hz q hq
    simp only [List.mem_cons, List.not_mem_nil, or_false] at hz
    rcases hz with rfl | rfl | rfl
    ·injection hq with hq
     subst hq
     exact Reg.same_load1 rfl rfl (r6 1) (q6 1) Tryz.underlying54 rfl
    ·injection hq with hq
     subst hq
     exact Reg.same_load1 rfl rfl rn qn Tryz.underlying49 rfl
    ·injection hq with hq
     subst hq
     exact Reg.same_load1 rfl rfl (r12 2) (q12 2) Tryz.underlying3 rfl
   ·clear hQf q12 q6 qn hka r12 r6 rn hrow6 hown6 hk6 hk6' hmv6 hmv6' hc5 hc12 hc6 hcn5 hcr5
    refine Reg.restI_walkE [25, 26] _ rfl rfl (by kernel_rfl) ?_
    intro Qf hQf
    go_wp2_with fail
    first | refine hQf _ _ ⟨rfl, ?_⟩ | refine ⟨rfl, ?_⟩
    try clear hQf
    refine Reg.restI_end ?_
    go_wp2_with fail
    refine ⟨⟨k + 1, up2 u' F om (.slice (some ⟨g, 0, none⟩) (ml + 1) cap), by go_num, by omega, ?_, h126⟩, by simp [intOf]; omega⟩
    show ImM _ _ _ _ _ _ _ _ _ _ _ _ _ _
    rw [hsn.out, List.map_append, List.map_cons, List.map_nil, hpr.out, ← List.append_assoc]
    exact hst.out.1
  ·obtain rfl : k = lb := by omega
   have hfin := hI.out
   rw [List.take_of_length_le (by rw [← hlbH.out]; exact Nat.le_refl _)] at hfin
   have hfinH := hide hfin
   clear hI hfin hB12
   go_wp2_with fail
   first | exact hfinH.out | exact hQ _ _ _ _ _ _ _ _ _ _ _ _ _ _ _ _ _ _ _ _ _ _ _ _ _ _ _ _ _ _ _ _ _ _ _ _ _ _ _ _ wr u' hfinH.out
end Go.Proofs.YtpmceapjnnkhjaaGreatDoor
