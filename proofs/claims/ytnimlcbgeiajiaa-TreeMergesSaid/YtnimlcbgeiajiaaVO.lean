/-
  The reference's merged: the three loops that copy with the classes in the place of the states.
  The reference's merged: the walk joined.
  The reference's Merge: the walk.
-/
import Derived.Test.YtnimlcbgeiajiaaVN
import Derived.Test.YtnimlcbgeiajiaaVH
import Derived.Test.YtnimlcbgeiajiaaVJ

namespace Go.Proofs.Ytnimlcbgeiajiaa
open Go.RowKit

/-- What merged reads. -/
structure RmX (w : World) (g2 gc n : Nat) (L N : Int) (A1 A2 A3 : Option Addr) (c1 c2 c3 : Nat) (acc : List Int) (lv : List Leaf) (brs : List Branch) (cl : List Nat) : Prop where
  b : Blk w g2 26 #[.int .i64 L, .int .i64 N, .slice A1 acc.length c1, .slice A2 lv.length c2, .slice A3 brs.length c3]
  s1 : Sl w w.heap.size 1 encI A1 acc
  s2 : Sl w w.heap.size 2 encL A2 lv
  s3 : Sl w w.heap.size 4 encBr A3 brs
  row : Blk w gc 3 (fillC n cl)
  len : cl.length = n
theorem RmX.at {w w' : World} {g2 gc n : Nat} {L N : Int} {A1 A2 A3 : Option Addr} {c1 c2 c3 : Nat} {acc : List Int} {lv : List Leaf} {brs : List Branch} {cl : List Nat} (h : RmX w g2 gc n L N A1 A2 A3 c1 c2 c3 acc lv brs cl) (hb : Below w.heap.size w w') : RmX w' g2 gc n L N A1 A2 A3 c1 c2 c3 acc lv brs cl :=
  ⟨h.b.below hb, (h.s1.below hb).mono hb.size, (h.s2.below hb).mono hb.size, (h.s3.below hb).mono hb.size, h.row.below hb, h.len⟩
theorem RmX.cl {w : World} {g2 gc n : Nat} {L N : Int} {A1 A2 A3 : Option Addr} {c1 c2 c3 : Nat} {acc : List Int} {lv : List Leaf} {brs : List Branch} {cl : List Nat} (h : RmX w g2 gc n L N A1 A2 A3 c1 c2 c3 acc lv brs cl) {q : Nat} (hq : q < n) : w.cell? ⟨gc, q, none⟩ = some (.int .i64 (clN cl q : Int)) := by
  obtain ⟨y, hy⟩ := get_lt (l := cl) (i := q) (by rw [h.len]; exact hq)
  rw [h.row.cell, fillC_cell hy, show clN cl q = y from getD_some hy]
  rfl
theorem PlS.old {w0 wb w : World} {g3 L n : Nat} {va vl vb : Value} {al : List Nat} {lv : List Leaf} {br : List Branch} (h : PlS wb w g3 L n va vl vb al lv br) (h0 : Below w0.heap.size w0 wb) (hg : w0.heap.size ≤ g3) : Below w0.heap.size w0 w := h0.trans (h.kept.below h0.size fun b hb e => by omega)

set_option maxHeartbeats 8000000 in
set_option maxRecDepth 100000 in
theorem rm_acc {w0 wb w : World} {g2 gc g6 n L' n' : Nat} {L N : Int} {A1 A2 A3 : Option Addr} {c1 c2 c3 : Nat} {al : List Nat} {lv : List Leaf} {brs : List Branch} {cl : List Nat} {v4 v5 : Value} (hX : RmX w0 g2 gc n L N A1 A2 A3 c1 c2 c3 (al.map fun (i : Nat) => (i : Int)) lv brs cl) (hA : ∀ q ∈ al, q < n) (hle : al.length ≤ 800000)
    (h0 : Below w0.heap.size w0 wb) (hg6 : w0.heap.size ≤ g6) (hP : PlS wb w g6 L' n' (.slice none 0 0) v4 v5 [] [] [])
    {u0 u1 u3 u4 u8 u9 u10 u11 u12 u13 u14 u15 u16 u17 u18 u19 u20 u21 u22 u23 u24 u25 u26 u27 u28 u29 u30 u31 u32 u33 u34 u35 u36 u37 u38 u39 u40 u41 u42 u43 u44 u45 u46 u47 u48 u49 u50 u51 u52 u53 u54 u55 u56 u57 u58 u59 u60 u61 u62 u63 u64 u65 u66 u67 u68 u69 u70 u71 u72 u73 u74 u75 u76 u77 u78 u79 u80 u81 u82 u83 u84 u85 u86 u87 u88 u89 u90 u91 u92 u93 u94 u95 u96 u97 u98 u99 u100 u101 u102 u103 u104 : Value}
    {Q : Exit → Act → World → Prop} (hN : Reg.NoQ Q)
    (hQ : ∀ (x7 x21 x22 x23 x24 x25 x26 x27 x28 x29 x30 x31 x32 x33 x34 x35 x36 x37 x38 x39 x40 : Value) (w' : World) (v : Value), PlS wb w' g6 L' n' v v4 v5 (al.map (clN cl)) [] [] → Q (.exit 0) ⟨List.toArray (u0 :: u1 :: (.pointer (some ⟨g2, 0, none⟩)) :: u3 :: u4 :: (.slice (some ⟨gc, 0, none⟩) n n) :: (.pointer (some ⟨g6, 0, none⟩)) :: x7 :: u8 :: u9 :: u10 :: u11 :: u12 :: u13 :: u14 :: u15 :: u16 :: u17 :: u18 :: u19 :: u20 :: x21 :: x22 :: x23 :: x24 :: x25 :: 
      x26 :: x27 :: x28 :: x29 :: x30 :: x31 :: x32 :: x33 :: x34 :: x35 :: x36 :: x37 :: x38 :: x39 :: x40 :: u41 :: u42 :: u43 :: u44 :: u45 :: u46 :: u47 :: u48 :: u49 :: u50 :: u51 :: u52 :: u53 :: u54 :: u55 :: u56 :: u57 :: u58 :: u59 :: u60 :: u61 :: u62 :: 
      u63 :: u64 :: u65 :: u66 :: u67 :: u68 :: u69 :: u70 :: u71 :: u72 :: u73 :: u74 :: u75 :: u76 :: u77 :: u78 :: u79 :: u80 :: u81 :: u82 :: u83 :: u84 :: u85 :: u86 :: u87 :: u88 :: u89 :: u90 :: u91 :: u92 :: u93 :: u94 :: u95 :: u96 :: u97 :: u98 :: u99 :: 
      u100 :: u101 :: u102 :: u103 :: u104 :: []), []⟩ w') :
    (Code.loop (loopBody Try.f52 0)).wp Try.prog Q ⟨List.toArray (u0 :: u1 :: (.pointer (some ⟨g2, 0, none⟩)) :: u3 :: u4 :: (.slice (some ⟨gc, 0, none⟩) n n) :: (.pointer (some ⟨g6, 0, none⟩)) :: (.int .i64 0) :: u8 :: u9 :: u10 :: u11 :: u12 :: u13 :: u14 :: u15 :: u16 :: u17 :: u18 :: u19 :: u20 :: u21 :: u22 :: u23 :: 
      u24 :: u25 :: u26 :: u27 :: u28 :: u29 :: u30 :: u31 :: u32 :: u33 :: u34 :: u35 :: u36 :: u37 :: u38 :: u39 :: u40 :: u41 :: u42 :: u43 :: u44 :: u45 :: u46 :: u47 :: u48 :: u49 :: u50 :: u51 :: u52 :: u53 :: u54 :: u55 :: u56 :: u57 :: u58 :: u59 :: u60 :: 
      u61 :: u62 :: u63 :: u64 :: u65 :: u66 :: u67 :: u68 :: u69 :: u70 :: u71 :: u72 :: u73 :: u74 :: u75 :: u76 :: u77 :: u78 :: u79 :: u80 :: u81 :: u82 :: u83 :: u84 :: u85 :: u86 :: u87 :: u88 :: u89 :: u90 :: u91 :: u92 :: u93 :: u94 :: u95 :: u96 :: u97 :: 
      u98 :: u99 :: u100 :: u101 :: u102 :: u103 :: u104 :: []), []⟩ w := by
  conv => arg 2; arg 1; whnf
  have hAH := hide hA
  have hn1 := hX.s1.1
  have hml : (al.map fun (i : Nat) => (i : Int)).length = al.length := List.length_map _
  rw [hml] at hn1
  have hmlH := hide hml
  clear hA hml
  go_loopw [7] (fun kk wr => ∃ (k : Nat) (v : Value) (ao : List Nat), kk = .int .i64 (k : Int) ∧ k ≤ al.length ∧ ao.length = k ∧ PlS wb wr g6 L' n' v v4 v5 ao [] [] ∧ Hid (ao = (al.take k).map (clN cl))) (fun kk _ => al.length - (intOf kk).toNat)
  case atStart => exact ⟨0, _, [], rfl, Nat.zero_le _, rfl, hP, by show _ = _; simp⟩
  case round =>
    obtain ⟨k, v, ao, rfl, hk, hao, hPP, hI⟩ := hrel
    have hXr := hX.at (hPP.old h0 hg6)
    obtain ⟨A, c, rfl⟩ := slice_of_own hPP.acc
    have hc2 := hXr.b.cell
    rw [hmlH.out] at hc2
    have hc6 := hPP.blk.cell
    by_cases hlt : k < al.length
    · obtain ⟨q, hq⟩ := get_lt hlt
      obtain ⟨b, off, e, rfl, hbk, he, hc⟩ := hXr.s1.at (k := k) (by rw [List.length_map]; exact hlt)
      rw [List.getElem?_map, hq] at he
      have he2 := (Option.some.inj he).symm
      subst he2
      have hqn := hAH.out q (List.mem_of_getElem? hq)
      have d0 := hc 0 (by omega)
      simp only [Nat.add_zero, Nat.mul_one, encI] at d0
      have hcq := hXr.cl hqn
      generalize hcle : clN cl q = e at *
      have hcl2 := hide hcle
      have hqH := hide hq
      have hPd := hPP.keep0 ((Kept.refl wr (fun _ => False)).drew)
      have hwb := hPP.kept.size
      have haoH := hide hao
      have hal : ao.length < 900000 := by omega
      clear hc he hXr hcle hq hao
      go_wp2_with fail
      refine Reg.region_plain [0, 1, 0, 0, 8, 0, 56, 120, 252, 508, 1020, 2047, 4095, 8191] (by kernel_rfl) (by repeat (first | exact hN | refine Reg.NoQ.then ?_ | refine Reg.NoQ.inBlock ?_)) ?_
      go_wp2_with (at_builtin; refine wpList_app_new row22 rfl _ _ rfl wb.heap.size (.slice A ao.length c) ao.length _ rfl hPd.acc [.int .i64 (e : Int)] 1 rfl rfl (by simp [Value.oneCell']) (by omega) hwb ?_; intro g cap' w3 hown hk3 hmv3 hg3'; have hm3 := hPd.blk.kept hk3 (fun e => own_blk_ne hPd.acc hPd.blk (by decide) e); have hcm3 := hm3.cell; have hfm3 := hm3.frozen; have hgl3 := hm3.lt)
      refine ⟨⟨k + 1, .slice (some ⟨g, 0, none⟩) (ao.length + 1) cap', ao ++ [e], by go_num, by omega, by rw [List.length_append, haoH.out]; rfl, hPd.addAcc hk3 hown, ?_⟩, by simp [intOf]; omega⟩
      show _ = _
      rw [take_snoc hqH.out, List.map_append, ← hI.out, List.map_cons, List.map_nil, hcl2.out]
    · have e : k = al.length := by omega
      have hI2 := hI.out
      rw [e, List.take_length] at hI2
      subst hI2
      have hPH := hide hPP
      clear hPP hXr e hao
      go_wp2_with fail
      exact hQ _ _ _ _ _ _ _ _ _ _ _ _ _ _ _ _ _ _ _ _ _ wr _ hPH.out

set_option maxHeartbeats 8000000 in
set_option maxRecDepth 100000 in
theorem rm_leaves {w0 wb w : World} {g2 gc g6 n L' n' : Nat} {L N : Int} {A1 A2 A3 : Option Addr} {c1 c2 c3 : Nat} {acc : List Int} {al : List Nat} {lv : List Leaf} {brs : List Branch} {cl : List Nat} {v3 v5 : Value} (hX : RmX w0 g2 gc n L N A1 A2 A3 c1 c2 c3 acc lv brs cl) (hA : ∀ e ∈ lv, ∃ x q : Nat, q < n ∧ e = ⟨(x : Int), (q : Int)⟩) (hle : lv.length ≤ 800000)
    (h0 : Below w0.heap.size w0 wb) (hg6 : w0.heap.size ≤ g6) (hP : PlS wb w g6 L' n' v3 (.slice none 0 0) v5 al [] [])
    {u0 u1 u3 u4 u7 u9 u10 u11 u12 u13 u14 u15 u16 u17 u18 u19 u20 u21 u22 u23 u24 u25 u26 u27 u28 u29 u30 u31 u32 u33 u34 u35 u36 u37 u38 u39 u40 u41 u42 u43 u44 u45 u46 u47 u48 u49 u50 u51 u52 u53 u54 u55 u56 u57 u58 u59 u60 u61 u62 u63 u64 u65 u66 u67 u68 u69 u70 u71 u72 u73 u74 u75 u76 u77 u78 u79 u80 u81 u82 u83 u84 u85 u86 u87 u88 u89 u90 u91 u92 u93 u94 u95 u96 u97 u98 u99 u100 u101 u102 u103 u104 : Value}
    {Q : Exit → Act → World → Prop} (hN : Reg.NoQ Q)
    (hQ : ∀ (x8 x41 x42 x43 x44 x45 x46 x47 x48 x49 x50 x51 x52 x53 x54 x55 x56 x57 x58 x59 x60 x61 x62 x63 x64 x65 x66 x67 x68 : Value) (w' : World) (v : Value), PlS wb w' g6 L' n' v3 v v5 al (lv.map fun e => ⟨e.letter, (clN cl e.to.toNat : Int)⟩) [] → Q (.exit 2) ⟨List.toArray (u0 :: u1 :: (.pointer (some ⟨g2, 0, none⟩)) :: u3 :: u4 :: (.slice (some ⟨gc, 0, none⟩) n n) :: (.pointer (some ⟨g6, 0, none⟩)) :: u7 :: x8 :: u9 :: u10 :: u11 :: u12 :: u13 :: u14 :: u15 :: u16 :: u17 :: u18 :: u19 :: u20 :: u21 :: u22 :: u23 :: u24 :: u25 :: 
      u26 :: u27 :: u28 :: u29 :: u30 :: u31 :: u32 :: u33 :: u34 :: u35 :: u36 :: u37 :: u38 :: u39 :: u40 :: x41 :: x42 :: x43 :: x44 :: x45 :: x46 :: x47 :: x48 :: x49 :: x50 :: x51 :: x52 :: x53 :: x54 :: x55 :: x56 :: x57 :: x58 :: x59 :: x60 :: x61 :: x62 :: 
      x63 :: x64 :: x65 :: x66 :: x67 :: x68 :: u69 :: u70 :: u71 :: u72 :: u73 :: u74 :: u75 :: u76 :: u77 :: u78 :: u79 :: u80 :: u81 :: u82 :: u83 :: u84 :: u85 :: u86 :: u87 :: u88 :: u89 :: u90 :: u91 :: u92 :: u93 :: u94 :: u95 :: u96 :: u97 :: u98 :: u99 :: 
      u100 :: u101 :: u102 :: u103 :: u104 :: []), []⟩ w') :
    (Code.loop (loopBody Try.f52 1)).wp Try.prog Q ⟨List.toArray (u0 :: u1 :: (.pointer (some ⟨g2, 0, none⟩)) :: u3 :: u4 :: (.slice (some ⟨gc, 0, none⟩) n n) :: (.pointer (some ⟨g6, 0, none⟩)) :: u7 :: (.int .i64 0) :: u9 :: u10 :: u11 :: u12 :: u13 :: u14 :: u15 :: u16 :: u17 :: u18 :: u19 :: u20 :: u21 :: u22 :: u23 :: 
      u24 :: u25 :: u26 :: u27 :: u28 :: u29 :: u30 :: u31 :: u32 :: u33 :: u34 :: u35 :: u36 :: u37 :: u38 :: u39 :: u40 :: u41 :: u42 :: u43 :: u44 :: u45 :: u46 :: u47 :: u48 :: u49 :: u50 :: u51 :: u52 :: u53 :: u54 :: u55 :: u56 :: u57 :: u58 :: u59 :: u60 :: 
      u61 :: u62 :: u63 :: u64 :: u65 :: u66 :: u67 :: u68 :: u69 :: u70 :: u71 :: u72 :: u73 :: u74 :: u75 :: u76 :: u77 :: u78 :: u79 :: u80 :: u81 :: u82 :: u83 :: u84 :: u85 :: u86 :: u87 :: u88 :: u89 :: u90 :: u91 :: u92 :: u93 :: u94 :: u95 :: u96 :: u97 :: 
      u98 :: u99 :: u100 :: u101 :: u102 :: u103 :: u104 :: []), []⟩ w := by
  conv => arg 2; arg 1; whnf
  have hAH := hide hA
  have hn1 := hX.s2.1
  clear hA
  go_loopw [8] (fun kk wr => ∃ (k : Nat) (v : Value) (ao : List Leaf), kk = .int .i64 (k : Int) ∧ k ≤ lv.length ∧ ao.length = k ∧ PlS wb wr g6 L' n' v3 v v5 al ao [] ∧ Hid (ao = (lv.take k).map fun e => ⟨e.letter, (clN cl e.to.toNat : Int)⟩)) (fun kk _ => lv.length - (intOf kk).toNat)
  case atStart => exact ⟨0, _, [], rfl, Nat.zero_le _, rfl, hP, by show _ = _; simp⟩
  case round =>
    obtain ⟨k, v, ao, rfl, hk, hao, hPP, hI⟩ := hrel
    have hXr := hX.at (hPP.old h0 hg6)
    obtain ⟨A, c, rfl⟩ := slice_of_own hPP.lvs
    have hc2 := hXr.b.cell
    have hc6 := hPP.blk.cell
    by_cases hlt : k < lv.length
    · obtain ⟨b, off, e, rfl, hbk, he, hc⟩ := hXr.s2.at hlt
      obtain ⟨x, q, hqn, rfl⟩ := hAH.out e (List.mem_of_getElem? he)
      have d0 := hc 0 (by omega)
      have d1 := hc 1 (by omega)
      simp only [Nat.add_zero, encL] at d0 d1
      have hcq := hXr.cl hqn
      generalize hcle : clN cl q = e at *
      have hcl2 := hide hcle
      have hqH := hide he
      have hPd := hPP.keep0 ((Kept.refl wr (fun _ => False)).drew)
      have hwb := hPP.kept.size
      have haoH := hide hao
      have hal : ao.length < 900000 := by omega
      clear hc he hXr hcle hao
      go_wp2_with fail
      refine Reg.region_cut [0, 1, 0, 4, 0, 28, 60, 124, 0, 0, 512, 0, 3584, 7680, 15872, 32512, 65280, 131068, 262140, 524287, 1048575, 2097151] [0, 1, 2, 3, 4, 5, 6, 7, 8, 9, 10, 11, 12, 13, 14, 15, 16, 17, 18, 19, 20, 21] (by kernel_rfl) (by repeat (first | exact hN | refine Reg.NoQ.then ?_ | refine Reg.NoQ.inBlock ?_)) ?_
      refine Reg.rest_walk' [0, 1, 2, 3, 4, 5, 6, 7, 8, 9, 10, 11, 12, 13, 14, 15, 16] [17, 18, 19, 20, 21] rfl (by kernel_rfl) ?_
      intro Qf hQf
      go_wp2_with fail
      rw [List.filterMap_nil]
      go_wp2_with fail
      refine Reg.rest_act' 17 [18, 19, 20, 21] [1] rfl (by kernel_rfl) ?_
      intro Qf hQf
      simp only [List.getElem_toArray, List.getElem_cons_succ, List.getElem_cons_zero]
      go_wp2_with fail
      refine ⟨Reg.same_below (Below.refl _ _) [1] rfl, ?_⟩
      refine Reg.rest_walk' [18] [19, 20, 21] rfl (by kernel_rfl) ?_
      intro Qf hQf
      go_wp2_with fail
      rw [List.filterMap_nil]
      go_wp2_with fail
      refine Reg.rest_act' 19 [20, 21] [] rfl (by kernel_rfl) ?_
      intro Qf hQf
      simp only [List.getElem_toArray, List.getElem_cons_succ, List.getElem_cons_zero]
      refine wpList_app_new (w := wr.drew) row23 rfl _ _ rfl wb.heap.size (.slice A ao.length c) ao.length _ rfl hPd.lvs [.int .i64 (x : Int), .int .i64 (e : Int)] 1 rfl rfl (by simp [Value.oneCell']) (by omega) hwb ?_
      intro g cap' w3 hown hk3 hmv3 hg3'
      have hm3 := hPd.blk.kept hk3 (fun e => own_blk_ne hPd.lvs hPd.blk (by decide) e)
      have hcm3 := hm3.cell
      have hfm3 := hm3.frozen
      have hgl3 := hm3.lt
      have hPf := hide (hPd.addLv (e := ⟨(x : Int), (e : Int)⟩) hk3 hown)
      refine hQf _ _ ⟨fun r hr => absurd hr (List.not_mem_nil), ?_⟩
      clear hQf
      refine Reg.rest_walk' [20, 21] [] rfl (by kernel_rfl) ?_
      intro Qf hQf
      go_wp2_with fail
      rw [List.filterMap_nil]
      go_wp2_with fail
      refine Reg.rest_end ?_
      go_wp2_with fail
      refine ⟨⟨k + 1, _, ao ++ [⟨(x : Int), (e : Int)⟩], by go_num, by omega, by rw [List.length_append, haoH.out]; rfl, hPf.out, ?_⟩, by simp [intOf]; omega⟩
      show _ = _
      rw [take_snoc hqH.out, List.map_append, ← hI.out, List.map_cons, List.map_nil, Int.toNat_natCast, hcl2.out]
    · have e : k = lv.length := by omega
      have hI2 := hI.out
      rw [e, List.take_length] at hI2
      subst hI2
      have hPH := hide hPP
      clear hPP hXr e hao
      go_wp2_with fail
      exact hQ _ _ _ _ _ _ _ _ _ _ _ _ _ _ _ _ _ _ _ _ _ _ _ _ _ _ _ _ _ wr _ hPH.out

set_option maxHeartbeats 8000000 in
set_option maxRecDepth 100000 in
theorem rm_branches {w0 wb w : World} {g2 gc g6 n L' n' : Nat} {L N : Int} {A1 A2 A3 : Option Addr} {c1 c2 c3 : Nat} {acc : List Int} {al : List Nat} {lv lo : List Leaf} {brs : List Branch} {cl : List Nat} {v3 v4 : Value} (hX : RmX w0 g2 gc n L N A1 A2 A3 c1 c2 c3 acc lv brs cl) (hA : ∀ e ∈ brs, ∃ x p q s : Nat, p < n ∧ q < n ∧ s < n ∧ e = ⟨(x : Int), (p : Int), (q : Int), (s : Int)⟩) (hle : brs.length ≤ 800000)
    (h0 : Below w0.heap.size w0 wb) (hg6 : w0.heap.size ≤ g6) (hP : PlS wb w g6 L' n' v3 v4 (.slice none 0 0) al lo [])
    {u0 u1 u3 u4 u7 u8 u10 u11 u12 u13 u14 u15 u16 u17 u18 u19 u20 u21 u22 u23 u24 u25 u26 u27 u28 u29 u30 u31 u32 u33 u34 u35 u36 u37 u38 u39 u40 u41 u42 u43 u44 u45 u46 u47 u48 u49 u50 u51 u52 u53 u54 u55 u56 u57 u58 u59 u60 u61 u62 u63 u64 u65 u66 u67 u68 u69 u70 u71 u72 u73 u74 u75 u76 u77 u78 u79 u80 u81 u82 u83 u84 u85 u86 u87 u88 u89 u90 u91 u92 u93 u94 u95 u96 u97 u98 u99 u100 u101 u102 u103 u104 : Value}
    {Q : Exit → Act → World → Prop} (hN : Reg.NoQ Q)
    (hQ : ∀ (x9 x10 x69 x70 x71 x72 x73 x74 x75 x76 x77 x78 x79 x80 x81 x82 x83 x84 x85 x86 x87 x88 x89 x90 x91 x92 x93 x94 x95 x96 x97 x98 x99 x100 x101 x102 x103 : Value) (w' : World) (v : Value), PlS wb w' g6 L' n' v3 v4 v al lo (brs.map fun e => ⟨e.letter, (clN cl e.first.toNat : Int), (clN cl e.second.toNat : Int), (clN cl e.to.toNat : Int)⟩) → Q (.exit 4) ⟨List.toArray (u0 :: u1 :: (.pointer (some ⟨g2, 0, none⟩)) :: u3 :: u4 :: (.slice (some ⟨gc, 0, none⟩) n n) :: (.pointer (some ⟨g6, 0, none⟩)) :: u7 :: u8 :: x9 :: x10 :: u11 :: u12 :: u13 :: u14 :: u15 :: u16 :: u17 :: u18 :: u19 :: u20 :: u21 :: u22 :: u23 :: u24 :: u25 :: 
      u26 :: u27 :: u28 :: u29 :: u30 :: u31 :: u32 :: u33 :: u34 :: u35 :: u36 :: u37 :: u38 :: u39 :: u40 :: u41 :: u42 :: u43 :: u44 :: u45 :: u46 :: u47 :: u48 :: u49 :: u50 :: u51 :: u52 :: u53 :: u54 :: u55 :: u56 :: u57 :: u58 :: u59 :: u60 :: u61 :: u62 :: 
      u63 :: u64 :: u65 :: u66 :: u67 :: u68 :: x69 :: x70 :: x71 :: x72 :: x73 :: x74 :: x75 :: x76 :: x77 :: x78 :: x79 :: x80 :: x81 :: x82 :: x83 :: x84 :: x85 :: x86 :: x87 :: x88 :: x89 :: x90 :: x91 :: x92 :: x93 :: x94 :: x95 :: x96 :: x97 :: x98 :: x99 :: 
      x100 :: x101 :: x102 :: x103 :: u104 :: []), []⟩ w') :
    (Code.loop (loopBody Try.f52 2)).wp Try.prog Q ⟨List.toArray (u0 :: u1 :: (.pointer (some ⟨g2, 0, none⟩)) :: u3 :: u4 :: (.slice (some ⟨gc, 0, none⟩) n n) :: (.pointer (some ⟨g6, 0, none⟩)) :: u7 :: u8 :: (.int .i64 0) :: u10 :: u11 :: u12 :: u13 :: u14 :: u15 :: u16 :: u17 :: u18 :: u19 :: u20 :: u21 :: u22 :: u23 :: 
      u24 :: u25 :: u26 :: u27 :: u28 :: u29 :: u30 :: u31 :: u32 :: u33 :: u34 :: u35 :: u36 :: u37 :: u38 :: u39 :: u40 :: u41 :: u42 :: u43 :: u44 :: u45 :: u46 :: u47 :: u48 :: u49 :: u50 :: u51 :: u52 :: u53 :: u54 :: u55 :: u56 :: u57 :: u58 :: u59 :: u60 :: 
      u61 :: u62 :: u63 :: u64 :: u65 :: u66 :: u67 :: u68 :: u69 :: u70 :: u71 :: u72 :: u73 :: u74 :: u75 :: u76 :: u77 :: u78 :: u79 :: u80 :: u81 :: u82 :: u83 :: u84 :: u85 :: u86 :: u87 :: u88 :: u89 :: u90 :: u91 :: u92 :: u93 :: u94 :: u95 :: u96 :: u97 :: 
      u98 :: u99 :: u100 :: u101 :: u102 :: u103 :: u104 :: []), []⟩ w := by
  conv => arg 2; arg 1; whnf
  have hAH := hide hA
  have hn1 := hX.s3.1
  clear hA
  go_loopw [9] (fun kk wr => ∃ (k : Nat) (v : Value) (ao : List Branch), kk = .int .i64 (k : Int) ∧ k ≤ brs.length ∧ ao.length = k ∧ PlS wb wr g6 L' n' v3 v4 v al lo ao ∧ Hid (ao = (brs.take k).map fun e => ⟨e.letter, (clN cl e.first.toNat : Int), (clN cl e.second.toNat : Int), (clN cl e.to.toNat : Int)⟩)) (fun kk _ => brs.length - (intOf kk).toNat)
  case atStart => exact ⟨0, _, [], rfl, Nat.zero_le _, rfl, hP, by show _ = _; simp⟩
  case round =>
    obtain ⟨k, v, ao, rfl, hk, hao, hPP, hI⟩ := hrel
    have hXr := hX.at (hPP.old h0 hg6)
    obtain ⟨A, c, rfl⟩ := slice_of_own hPP.brs
    have hc2 := hXr.b.cell
    by_cases hlt : k < brs.length
    · obtain ⟨b, off, e, rfl, hbk, he, hc⟩ := hXr.s3.at hlt
      obtain ⟨x, p, q, s, hpn, hqn, hsn, rfl⟩ := hAH.out e (List.mem_of_getElem? he)
      have d0 := hc 0 (by omega)
      have d1 := hc 1 (by omega)
      have d2 := hc 2 (by omega)
      have d3 := hc 3 (by omega)
      simp only [Nat.add_zero, encBr] at d0 d1 d2 d3
      obtain ⟨w4, hw4, hb4, hB4, hk4⟩ := box_blk wr #[.int .i64 (x : Int), .int .i64 (p : Int), .int .i64 (q : Int), .int .i64 (s : Int)] 59
      have hP4 := hPP.keep0 hk4
      have hX4 := hX.at (hP4.old h0 hg6)
      have hc6 := hP4.blk.cell
      have hc10 := hB4.cell
      have hcp := hX4.cl hpn
      have hcq := hX4.cl hqn
      have hcs := hX4.cl hsn
      generalize hcle1 : clN cl p = e1 at *
      generalize hcle2 : clN cl q = e2 at *
      generalize hcle3 : clN cl s = e3 at *
      have hcl1 := hide hcle1
      have hcl2 := hide hcle2
      have hcl3 := hide hcle3
      have hqH := hide he
      have hPd := hP4.keep0 ((Kept.refl w4 (fun _ => False)).drew)
      have hwb := hP4.kept.size
      have haoH := hide hao
      have hal : ao.length < 900000 := by omega
      clear hc he hXr hX4 hcle1 hcle2 hcle3 hao hPP
      go_wp2_with fail
      refine Reg.region_cut [0, 1, 0, 4, 0, 0, 32, 112, 240, 0, 0, 1024, 3584, 7680, 0, 0, 32768, 114688, 245760, 524284, 1048572, 2097151, 4194303, 8388607] [0, 1, 2, 3, 4, 5, 6, 7, 8, 9, 10, 11, 12, 13, 14, 15, 16, 17, 18, 19, 20, 21, 22, 23] (by kernel_rfl) (by repeat (first | exact hN | refine Reg.NoQ.then ?_ | refine Reg.NoQ.inBlock ?_)) ?_
      refine Reg.rest_walk' [0, 1, 2, 3, 4, 5, 6, 7, 8, 9, 10, 11, 12, 13, 14, 15, 16, 17, 18] [19, 20, 21, 22, 23] rfl (by kernel_rfl) ?_
      intro Qf hQf
      go_wp2_with fail
      rw [List.filterMap_nil]
      go_wp2_with fail
      refine Reg.rest_act' 19 [20, 21, 22, 23] [1] rfl (by kernel_rfl) ?_
      intro Qf hQf
      simp only [List.getElem_toArray, List.getElem_cons_succ, List.getElem_cons_zero]
      go_wp2_with fail
      refine ⟨Reg.same_below (Below.refl _ _) [1] rfl, ?_⟩
      refine Reg.rest_walk' [20] [21, 22, 23] rfl (by kernel_rfl) ?_
      intro Qf hQf
      go_wp2_with fail
      rw [List.filterMap_nil]
      go_wp2_with fail
      refine Reg.rest_act' 21 [22, 23] [] rfl (by kernel_rfl) ?_
      intro Qf hQf
      simp only [List.getElem_toArray, List.getElem_cons_succ, List.getElem_cons_zero]
      refine wpList_app_new (w := w4.drew) row24 rfl _ _ rfl wb.heap.size (.slice A ao.length c) ao.length _ rfl hPd.brs [.int .i64 (x : Int), .int .i64 (e1 : Int), .int .i64 (e2 : Int), .int .i64 (e3 : Int)] 1 rfl rfl (by simp [Value.oneCell']) (by omega) hwb ?_
      intro g cap' w3 hown hk3 hmv3 hg3'
      have hm3 := hPd.blk.kept hk3 (fun e => own_blk_ne hPd.brs hPd.blk (by decide) e)
      have hcm3 := hm3.cell
      have hfm3 := hm3.frozen
      have hgl3 := hm3.lt
      have hPf := hide (hPd.addBr (e := ⟨(x : Int), (e1 : Int), (e2 : Int), (e3 : Int)⟩) hk3 hown)
      refine hQf _ _ ⟨fun r hr => absurd hr (List.not_mem_nil), ?_⟩
      clear hQf
      refine Reg.rest_walk' [22, 23] [] rfl (by kernel_rfl) ?_
      intro Qf hQf
      go_wp2_with fail
      rw [List.filterMap_nil]
      go_wp2_with fail
      refine Reg.rest_end ?_
      go_wp2_with fail
      refine ⟨⟨k + 1, _, ao ++ [⟨(x : Int), (e1 : Int), (e2 : Int), (e3 : Int)⟩], by go_num, by omega, by rw [List.length_append, haoH.out]; rfl, hPf.out, ?_⟩, by simp [intOf]; omega⟩
      show _ = _
      rw [take_snoc hqH.out, List.map_append, ← hI.out, List.map_cons, List.map_nil, Int.toNat_natCast, Int.toNat_natCast, Int.toNat_natCast, hcl1.out, hcl2.out, hcl3.out]
    · have e : k = brs.length := by omega
      have hI2 := hI.out
      rw [e, List.take_length] at hI2
      subst hI2
      have hPH := hide hPP
      have hc6 := hPP.blk.cell
      clear hPP hXr e hao
      go_wp2_with fail
      exact hQ _ _ _ _ _ _ _ _ _ _ _ _ _ _ _ _ _ _ _ _ _ _ _ _ _ _ _ _ _ _ _ _ _ _ _ _ _ wr _ hPH.out
end Go.Proofs.Ytnimlcbgeiajiaa

namespace Go.Proofs.Ytnimlcbgeiajiaa
open Go.RowKit

/-- Its memory. -/
theorem rows_ta {w : World} {base L n : Nat} {va vl vb : Value} {al : List Nat} {lv : List Leaf} {br : List Branch} (h1 : w.ownsRow base 3 1 va al.length (al.map encN)) (h2 : w.ownsRow base 36 2 vl lv.length (lv.flatMap lvCells)) (h3 : w.ownsRow base 59 4 vb br.length (br.flatMap brCells)) :
    IsTA w w.heap.size (.agg #[.int .i64 L, .int .i64 n, va, vl, vb]) ⟨(L : Int), (n : Int), al.map fun i : Nat => (i : Int), lv, br⟩ := by
  have h1' : w.ownsRow base 3 1 va (al.map fun i : Nat => (i : Int)).length (al.map encN) := by simpa using h1
  obtain ⟨A1, c1, rfl, s1⟩ := sl_own (enc := encI) h1' (fun k j d hd hj => by
    have hj0 : j = 0 := by omega
    subst hj0
    rw [List.getElem?_map] at hd
    rw [Nat.mul_one, Nat.add_zero, List.getElem?_map]
    cases hk : al[k]? with
    | none => rw [hk] at hd; cases hd
    | some i =>
      rw [hk] at hd
      have := Option.some.inj hd
      subst this
      rfl)
  obtain ⟨A2, c2, rfl, s2⟩ := sl_own (enc := encL) h2 (fun k j d hd hj => flat2 _ k j d hd hj)
  obtain ⟨A3, c3, rfl, s3⟩ := sl_own (enc := encBr) h3 (fun k j d hd hj => flat4 _ k j d hd hj)
  exact ⟨A1, c1, A2, c2, A3, c3, rfl, s1, s2, s3⟩
theorem renA_eq (L n : Nat) (ac : List Bool) (lf cl : List Nat) (t : List (List (List Nat))) (hn : n = ac.length + 1) :
    (⟨(L : Int), (n : Int), ((accIdx ac).map (clN cl)).map fun i : Nat => (i : Int), (plLv lf).map fun e => ⟨e.letter, (clN cl e.to.toNat : Int)⟩, (plBr L ac.length t).map fun e => ⟨e.letter, (clN cl e.first.toNat : Int), (clN cl e.second.toNat : Int), (clN cl e.to.toNat : Int)⟩⟩ : TA) = renA (plainA L ac lf t) cl := by
  subst hn
  unfold renA plainA
  simp [List.map_map, Function.comp_def]

set_option maxHeartbeats 8000000 in
set_option maxRecDepth 100000 in
theorem refmerged_any {w : World} {L : Nat} {d : Int} {v : Value} {ac : List Bool} {lf : List Nat} {t : List (List (List Nat))} (h : IsTA w w.heap.size v (plainA L ac lf t)) (hok : MOK L ac lf t) (hL : L ≤ 8) (hL1 : 1 ≤ L) (hn : ac.length ≤ 64) :
    Calls Try.prog 52 #[v, .int .i64 d] w (Ret fun r w' => Below w.heap.size w w' ∧ ∃ cl, ClsR L ac.length (mbr t) (macc ac) d cl ∧ IsTA w' w'.heap.size r (renA (plainA L ac lf t) cl)) := by
  obtain ⟨A1, c1, A2, c2, A3, c3, rfl, h1, h2, h3⟩ := h
  have hpos := hok.pos hL1
  have h1' : Sl w w.heap.size 1 encI A1 ((accIdx ac).map fun (i : Nat) => (i : Int)) := h1
  have h2' : Sl w w.heap.size 2 encL A2 (plLv lf) := h2
  have h3' : Sl w w.heap.size 4 encBr A3 (plBr L ac.length t) := h3
  show Calls Try.prog 52 #[.agg #[.int .i64 (L : Int), .int .i64 (ac.length : Int), .slice A1 ((accIdx ac).map fun (i : Nat) => (i : Int)).length c1, .slice A2 (plLv lf).length c2, .slice A3 (plBr L ac.length t).length c3], .int .i64 d] w _
  obtain ⟨w1, hw1, hb1, hB1, hk1⟩ := box_blk w #[.int .i64 (L : Int), .int .i64 (ac.length : Int), .slice A1 (accIdx ac).length c1, .slice A2 (plLv lf).length c2, .slice A3 (plBr L ac.length t).length c3] 26
  obtain ⟨w2, hw2, hb2, hB2, hk2⟩ := box_blk w1 #[.int .i64 0, .int .i64 0, .slice none 0 0, .slice none 0 0, .slice none 0 0] 26
  have hsz1 := hb1.size
  have hsz2 := hb2.size
  have hb02 := hb1.trans (hb2.mono hsz1)
  have hlt2 := hB2.lt
  have hB12 := hB1.below hb2
  have hc1 := hB12.cell
  have hT := hide (show IsTA w2 w2.heap.size (.agg #[.int .i64 (L : Int), .int .i64 (ac.length : Int), .slice A1 (accIdx ac).length c1, .slice A2 (plLv lf).length c2, .slice A3 (plBr L ac.length t).length c3]) (plainA L ac lf t) from
    ⟨A1, c1, A2, c2, A3, c3, by simp [plainA], (h1'.below hb02).mono (by omega), (h2'.below hb02).mono (by omega), (h3'.below hb02).mono (by omega)⟩)
  have hs1 := hide ((h1'.below hb02).mono (B' := w2.heap.size) (by omega))
  have hs2 := hide ((h2'.below hb02).mono (B' := w2.heap.size) (by omega))
  have hs3 := hide ((h3'.below hb02).mono (B' := w2.heap.size) (by omega))
  have hAa := hide (fun (q : Nat) (hq : q ∈ accIdx ac) => (mem_accIdx.1 hq).1)
  have hFl := hide (fun (e : Leaf) (he : e ∈ plLv lf) => show ∃ x q : Nat, q < ac.length ∧ e = ⟨(x : Int), (q : Int)⟩ from by
    obtain ⟨x, hx, rfl⟩ := mem_plLv.1 he
    exact ⟨x, _, hok.isM.leaf_lt x (by rw [← hok.lfl]; exact hx), rfl⟩)
  have hFb := hide (fun (e : Branch) (he : e ∈ plBr L ac.length t) => show ∃ x p q s : Nat, p < ac.length ∧ q < ac.length ∧ s < ac.length ∧ e = ⟨(x : Int), (p : Int), (q : Int), (s : Int)⟩ from by
    obtain ⟨x, i, j, hx, hi, hj, rfl⟩ := mem_plBr.1 he
    exact ⟨x, i, j, _, hi, hj, hok.isM.br_lt x i j hx hi hj, rfl⟩)
  have hLn := hide (show (accIdx ac).length ≤ 64 ∧ (plLv lf).length ≤ 8 ∧ (plBr L ac.length t).length ≤ 32768 from by
    refine ⟨?_, ?_, ?_⟩
    · refine Nat.le_trans (List.length_filter_le _ _) ?_
      rw [List.length_range]
      exact hn
    · rw [show (plLv lf).length = lf.length by simp [plLv], hok.lfl]
      exact hL
    · rw [plBr_len]
      have := Nat.mul_le_mul hn hn
      have := Nat.mul_le_mul hL this
      omega)
  have hOK := hide hok
  clear h1 h2 h3 h1' h2' h3' hok
  go_enter Try.func52, Try.ntmps52
  go_wp2_with fail
  refine Calls.ret (table_any hT.out hOK.out hL hL1 (by omega)) ?_
  rintro v3 w3 ⟨hb3, gl, ga, gv, cv, gi, ci, gj, rfl, hT3⟩
  have hF3 := hide hT3.read
  have hs3' := hb3.size
  clear hT3
  go_wp2_with fail
  refine Calls.ret (refclasses_any hF3.out hOK.out.isM (by omega) (by omega) hL) ?_
  rintro v4 w4 ⟨hb4, gc, cl, rfl, hgc, hrow, hcls⟩
  have hCL := hide hcls
  have hlen := hide hcls.len
  have hb24 : Below w2.heap.size w2 w4 := hb3.trans (hb4.mono hs3')
  have hs4 := hb4.size
  have hB24 := hB12.below hb24
  have hX := hide (show RmX w4 w.heap.size gc ac.length (L : Int) (ac.length : Int) A1 A2 A3 c1 c2 c3 ((accIdx ac).map fun (i : Nat) => (i : Int)) (plLv lf) (plBr L ac.length t) cl from
    ⟨by rw [List.length_map]; exact hB24, (hs1.out.below hb24).mono (by omega), (hs2.out.below hb24).mono (by omega), (hs3.out.below hb24).mono (by omega), hrow, hlen.out⟩)
  have hc4 := hB24.cell
  obtain ⟨w5, hw5, hb5, hB5, hk5⟩ := box_blk w4 #[.int .i64 (L : Int), .int .i64 ((ac.length : Int) + 1), .slice none 0 0, .slice none 0 0, .slice none 0 0] 26
  have hP5 := hide (show PlS w5 w5 w4.heap.size L (ac.length + 1) (.slice none 0 0) (.slice none 0 0) (.slice none 0 0) [] [] [] from ⟨Kept.refl _ _, hB5, own_nil, own_nil, own_nil⟩)
  have hb4H := hide hb24
  have hs5 := hb5.size
  have hs24 := hb24.size
  have hB2H := hide hB2
  have hb02H := hide hb02
  have hW5 := hide hw5
  clear hcls hrow hb3 hb4 hB24 hc1 hB1 hB2 hb02 hw5
  go_wp2_with fail
  rw [hW5.out]
  refine rm_acc hX.out hAa.out (by have := hLn.out.1; omega) hb5 (Nat.le_refl _) hP5.out ?_ ?_
  · repeat (first | exact Reg.NoQ.body (fun _ _ h => h) (fun _ h => h) | refine Reg.NoQ.then ?_ | refine Reg.NoQ.inBlock ?_)
  iterate 21 (intro _)
  intro w6 v6 hP6
  have hP6H := hide hP6
  clear hP6
  go_wp2_with fail
  refine rm_leaves hX.out hFl.out (by have := hLn.out.2.1; omega) hb5 (Nat.le_refl _) hP6H.out ?_ ?_
  · repeat (first | exact Reg.NoQ.body (fun _ _ h => h) (fun _ h => h) | refine Reg.NoQ.then ?_ | refine Reg.NoQ.inBlock ?_)
  iterate 29 (intro _)
  intro w7 v7 hP7
  have hP7H := hide hP7
  clear hP7
  go_wp2_with fail
  refine rm_branches hX.out hFb.out (by have := hLn.out.2.2; omega) hb5 (Nat.le_refl _) hP7H.out ?_ ?_
  · repeat (first | exact Reg.NoQ.body (fun _ _ h => h) (fun _ h => h) | refine Reg.NoQ.then ?_ | refine Reg.NoQ.inBlock ?_)
  iterate 37 (intro _)
  intro w8 v8 hP8
  have hb48 := hP8.old hb5 (Nat.le_refl _)
  have hb28 : Below w2.heap.size w2 w8 := hb4H.out.trans (hb48.mono hs24)
  have hB28 := hB2H.out.below hb28
  have hc28 := hB28.cell
  have hf28 := hB28.frozen
  have hl28 := hB28.lt
  obtain ⟨B1, d1, rfl⟩ := slice_of_own hP8.acc
  obtain ⟨B2, d2, rfl⟩ := slice_of_own hP8.lvs
  obtain ⟨B3, d3, rfl⟩ := slice_of_own hP8.brs
  have hc8 := hP8.blk.cell
  have hb28H := hide hb28
  have hs28 := hb28.size
  have hP8H := hide hP8
  clear hP8 hb48 hb28 hc4
  generalize hnn : ac.length + 1 = nn at *
  have hnnH := hide hnn
  clear hnn
  go_wp2_with fail
  obtain ⟨wF, hwF, hgF, hkF⟩ := set5_facts hB28 (.int .i64 (L : Int)) (.int .i64 (nn : Int)) (.slice B1 ((accIdx ac).map (clN cl)).length d1) (.slice B2 ((plLv lf).map fun e => (⟨e.letter, (clN cl e.to.toNat : Int)⟩ : Leaf)).length d2) (.slice B3 ((plBr L ac.length t).map fun e => (⟨e.letter, (clN cl e.first.toNat : Int), (clN cl e.second.toNat : Int), (clN cl e.to.toNat : Int)⟩ : Branch)).length d3)
  simp only [List.length_map] at hwF hgF
  change bodyPost _ _ _ _ _ (set5 w8 w1.heap.size (.int .i64 (L : Int)) (.int .i64 (nn : Int)) (.slice B1 (accIdx ac).length d1) (.slice B2 (plLv lf).length d2) (.slice B3 (plBr L ac.length t).length d3))
  rw [hwF]
  have hcF := hgF.cell
  refine bodyPost_ret (v := .agg #[.int .i64 (L : Int), .int .i64 (nn : Int), .slice B1 (accIdx ac).length d1, .slice B2 (plLv lf).length d2, .slice B3 (plBr L ac.length t).length d3]) (by simp [results, Try.results52, go_sem, hcF]) rfl
    ⟨(hb02H.out.trans (hb28H.out.mono (by omega))).trans (hkF.below (by omega) fun b hb e => by omega), cl, hCL.out, ?_⟩
  rw [← renA_eq L nn ac lf cl t hnnH.out.symm]
  have hne : ∀ e, e ≠ 26 → ∀ g cs, g = w1.heap.size → ¬ Blk w8 g e cs := fun e he g cs eg hb => by subst eg; exact hB28.ne_ hb (fun h => he h.symm) rfl
  have hTA := rows_ta (L := L) (n := nn) (own_ty hkF hP8H.out.acc (hne 3 (by decide))) (own_ty hkF hP8H.out.lvs (hne 36 (by decide))) (own_ty hkF hP8H.out.brs (hne 59 (by decide)))
  simpa only [List.length_map] using hTA
end Go.Proofs.Ytnimlcbgeiajiaa

namespace Go.Proofs.Ytnimlcbgeiajiaa
open Go.RowKit

set_option maxHeartbeats 8000000 in
set_option maxRecDepth 100000 in
theorem refMerge_any (v : Value) (a : TA) (d : Int) (w : World) (h : IsTA w w.heap.size v a) :
    Calls Try.prog 26 #[v, .int .i64 d] w (Ret fun v w' => Below w.heap.size w w' ∧ MgRes w' w.heap.size a d v) := by
  obtain ⟨A1, c1, A2, c2, A3, c3, rfl, h1, h2, h3⟩ := h
  obtain ⟨w1, hw1, hb1, hB1, hk1⟩ := box_blk w #[.int .i64 a.letters, .int .i64 a.states, .slice A1 a.accept.length c1, .slice A2 a.leaves.length c2, .slice A3 a.branches.length c3] 26
  obtain ⟨w2, hw2, hb2, hB2, hk2⟩ := box_blk w1 #[.int .i64 0, .int .i64 0, .slice none 0 0, .slice none 0 0, .slice none 0 0] 26
  have hsz1 := hb1.size
  have hsz2 := hb2.size
  have hB12 := hB1.kept hk2 id
  have hcb := hB12.cell
  have hb02 : Below w.heap.size w w2 := hb1.trans (hb2.mono hsz1)
  have hlt2 := hB2.lt
  have hT : IsTA w2 w2.heap.size (.agg #[.int .i64 a.letters, .int .i64 a.states, .slice A1 a.accept.length c1, .slice A2 a.leaves.length c2, .slice A3 a.branches.length c3]) a :=
    IsTA.keep ⟨A1, c1, A2, c2, A3, c3, rfl, h1, h2, h3⟩ (fun _ hp => hb02.cell hp) (by omega)
  have hTT := hide hT
  clear hT h1 h2 h3
  go_enter Try.func26, Try.ntmps26
  go_wp2_with fail
  refine (refValidate_any _ a w2 hTT.out).mono ?_
  rintro e w3 ⟨rfl, hb3⟩
  have hB13 := hB12.below hb3
  have hB23 := hB2.below hb3
  have hcb3 := hB13.cell
  have hc23 := hB23.cell
  have hf23 := hB23.frozen
  have hsz3 := hb3.size
  have hlt3 := hB23.lt
  have hb03 : Below w.heap.size w w3 := hb02.trans (hb3.mono (by omega))
  cases hv : a.valid with
  | false =>
    have hvv := hide hv
    clear hv
    have he : errno false = 1 := rfl
    rw [he]
    go_wp2_with fail
    obtain ⟨wF, hwF, hgF, hkF⟩ := set5_facts hB23 (.int .i64 0) (.int .i64 0) (.slice none 0 0) (.slice none 0 0) (.slice none 0 0)
    change bodyPost _ _ _ _ _ (set5 w3 w1.heap.size (.int .i64 0) (.int .i64 0) (.slice none 0 0) (.slice none 0 0) (.slice none 0 0))
    rw [hwF]
    have hcF := hgF.cell
    exact bodyPost_ret (v := .tuple #[zeroTA, .int .i64 1]) (by simp [results, Try.results26, go_sem, hcF, zeroTA]) rfl ⟨hb03.trans (hkF.below (by omega) (fun b hb e => by omega)), 1, zTA, zeroTA, rfl, .inl ⟨.inl hvv.out, rfl, rfl⟩, TAown.zero _ _⟩
  | true =>
    have hvv := hide hv
    clear hv
    have he : errno true = 0 := rfl
    rw [he]
    have hT3 : IsTA w3 w3.heap.size (.agg #[.int .i64 a.letters, .int .i64 a.states, .slice A1 a.accept.length c1, .slice A2 a.leaves.length c2, .slice A3 a.branches.length c3]) a := hTT.out.keep (fun _ hp => hb3.cell hp) hsz3
    have hT33 := hide hT3
    clear hT3 he
    by_cases hd : 0 ≤ d ∧ d ≤ 8
    · have hin := hide (show inC d 0 8 = true by simp [inC]; omega)
      have hdH := hide hd
      clear hd
      go_wp2_with (go_at_call 45; refine (within_any _ _ _ _).mono ?_; rintro e w' ⟨rfl, rfl⟩; rw [hin.out])
      refine Calls.ret (refmin_any _ a w3 hT33.out (TA.fit5_of hvv.out)) ?_
      rintro v w4 ⟨hb4, hres⟩
      have hB24 := hB23.below hb4
      have hsz4 := hb4.size
      have hb04 : Below w.heap.size w w4 := hb03.trans (hb4.mono (by omega))
      rcases hres with ⟨hlg, rfl⟩ | ⟨hnl, ac, lf, t, va, rfl, hok, hle, hcan, hown⟩
      · have hL := hide hlg
        clear hlg
        unfold zeroTA
        obtain ⟨w5, hw5, hb5, hB5, hk5⟩ := box_blk w4 #[.int .i64 0, .int .i64 0, .slice none 0 0, .slice none 0 0, .slice none 0 0] 26
        have hc5 := hB5.cell
        have hf5 := hB5.frozen
        have hl5 := hB5.lt
        obtain ⟨w6, hw6, hg6, hk6⟩ := set5_facts hB5 (.int .i64 0) (.int .i64 0) (.slice none 0 0) (.slice none 0 0) (.slice none 0 0)
        have hb46 : Below w4.heap.size w4 w6 := hb5.trans (hk6.below hb5.size fun b hb e => by omega)
        have hB26 := hB24.below hb46
        have hc26 := hB26.cell
        have hf26 := hB26.frozen
        have hl26 := hB26.lt
        have hw6' := hw6
        simp only [set5] at hw6'
        have hs6 := hb46.size
        clear hcb hcb3 hc23 hf23 hw6
        go_wp2_with fail
        obtain ⟨wF, hwF, hgF, hkF⟩ := set5_facts hB26 (.int .i64 0) (.int .i64 0) (.slice none 0 0) (.slice none 0 0) (.slice none 0 0)
        change bodyPost _ _ _ _ _ (set5 w6 w1.heap.size (.int .i64 0) (.int .i64 0) (.slice none 0 0) (.slice none 0 0) (.slice none 0 0))
        rw [hwF]
        have hcF := hgF.cell
        exact bodyPost_ret (v := .tuple #[zeroTA, .int .i64 4]) (by simp [results, Try.results26, go_sem, hcF, zeroTA]) rfl ⟨(hb04.trans (hb46.mono (by omega))).trans (hkF.below (by omega) (fun b hb e => by omega)), 4, zTA, zeroTA, rfl, .inr (.inl ⟨hvv.out, hdH.out.1, hdH.out.2, hL.out, rfl, rfl⟩), TAown.zero _ _⟩
      · have hNL := hide hnl
        have hOK := hide hok
        have hCAN := hide hcan
        have hL18 : 1 ≤ a.letters.toNat ∧ a.letters.toNat ≤ 8 := by
          have := TA.valid_parts hvv.out
          omega
        generalize hLe : a.letters.toNat = L at *
        have hLh := hide hLe
        have hM4 := hide (own_ta hown)
        obtain ⟨B1, d1, B2, d2, B3, d3, rfl, -, -, -⟩ := own_ta hown
        clear hnl hok hcan hown hLe
        obtain ⟨w5, hw5, hb5, hB5, hk5⟩ := box_blk w4 #[.int .i64 (plainA L ac lf t).letters, .int .i64 (plainA L ac lf t).states, .slice B1 (plainA L ac lf t).accept.length d1, .slice B2 (plainA L ac lf t).leaves.length d2, .slice B3 (plainA L ac lf t).branches.length d3] 26
        have hc5 := hB5.cell
        have hM5 := hide (hM4.out.keep (fun _ hp => hb5.cell hp) hb5.size)
        have hs5 := hb5.size
        have hB25 := hB24.below hb5
        have hb05 := hide (hb04.trans (hb5.mono (by omega)))
        generalize hpA : plainA L ac lf t = pA at *
        have hpH := hide hpA
        clear hpA hcb hcb3 hc23 hf23 hb04 hb5
        go_wp2_with fail
        refine Calls.ret (refmerged_any (by rw [hpH.out]; exact hM5.out) hOK.out hL18.2 hL18.1 hle) ?_
        rintro v6 w6 ⟨hb6, cl, hcls, hT6⟩
        have hcl := hide hcls
        obtain ⟨C1, f1, C2, f2, C3, f3, rfl, q1, q2, q3⟩ := hT6
        have hT6H := hide (show IsTA w6 w6.heap.size (.agg #[.int .i64 (renA (plainA L ac lf t) cl).letters, .int .i64 (renA (plainA L ac lf t) cl).states, .slice C1 (renA (plainA L ac lf t) cl).accept.length f1, .slice C2 (renA (plainA L ac lf t) cl).leaves.length f2, .slice C3 (renA (plainA L ac lf t) cl).branches.length f3]) (renA (plainA L ac lf t) cl) from ⟨C1, f1, C2, f2, C3, f3, rfl, q1, q2, q3⟩)
        have hfit5 := hide (ren_fit5 (cl := cl) hOK.out hL18.1 hL18.2 hle (fun i hi => hcl.out.le i hi))
        have hlike := hide (ren_like (cl := cl) hOK.out)
        have hB26 := hB25.below hb6
        have hs6 := hb6.size
        have hb06 := hide (hb05.out.trans (hb6.mono (by have := hb05.out.size; omega)))
        have hcut := hide (show ∀ i j, i < ac.length → j < ac.length → (clN cl i = clN cl j ↔ EqD L ac.length (mbr t) (macc ac) d i j) from fun i j hi hj => hcl.out.iff i j hi hj)
        generalize hrA : renA (plainA L ac lf t) cl = rA at *
        have hrL : rA.letters.toNat = L := by rw [← hrA]; exact Int.toNat_natCast _
        have hrLH := hide hrL
        clear hrL hrA hcls q1 q2 q3 hc5 hb6
        go_wp2_with fail
        refine Calls.ret (refmin_any _ rA w6 hT6H.out hfit5.out) ?_
        rintro v7 w7 ⟨hb7, hres⟩
        have hB27 := hB26.below hb7
        have hc27 := hB27.cell
        have hf27 := hB27.frozen
        have hl27 := hB27.lt
        have hs7 := hb7.size
        have hs06 := hb06.out.size
        have hb07 := hide (hb06.out.trans (hb7.mono hs06))
        rcases hres with ⟨hlg, rfl⟩ | ⟨hnl, ac', lf', t', va', rfl, hok', hle', hcan', hown'⟩
        · have hLG := hide hlg
          clear hlg hb7
          unfold zeroTA
          go_wp2_with fail
          have hLx := hLh.out
          subst hLx
          obtain ⟨wF, hwF, hgF, hkF⟩ := set5_facts hB27 (.int .i64 0) (.int .i64 0) (.slice none 0 0) (.slice none 0 0) (.slice none 0 0)
          change bodyPost _ _ _ _ _ (set5 w7 w1.heap.size (.int .i64 0) (.int .i64 0) (.slice none 0 0) (.slice none 0 0) (.slice none 0 0))
          rw [hwF]
          have hcF := hgF.cell
          exact bodyPost_ret (v := .tuple #[zeroTA, .int .i64 4]) (by simp [results, Try.results26, go_sem, hcF, zeroTA]) rfl ⟨(hb07.out).trans (hkF.below (by omega) (fun b hb e => by omega)), 4, zTA, zeroTA, rfl, .inr (.inr ⟨hvv.out, hdH.out.1, hdH.out.2, hNL.out, ac, lf, t, cl, rA, hOK.out, hle, hCAN.out, hcut.out, hlike.out, .inl ⟨hLG.out, rfl, rfl⟩⟩), TAown.zero _ _⟩
        · rw [hrLH.out] at hok' hcan' hown'
          have hOK' := hide hok'
          have hNL' := hide hnl
          have hCAN' := hide hcan'
          have hOWN' := hide hown'
          obtain ⟨va2, vl2, vb2, rfl, ho1, ho2, ho3⟩ := hown'
          obtain ⟨A5, d5, rfl⟩ := slice_of_own ho1
          obtain ⟨A6, d6, rfl⟩ := slice_of_own ho2
          obtain ⟨A7, d7, rfl⟩ := slice_of_own ho3
          clear hok' hnl hcan' ho1 ho2 ho3 hb7
          go_wp2_with fail
          obtain ⟨wF, hwF, hgF, hkF⟩ := set5_facts hB27 (.int .i64 (L : Int)) (.int .i64 (ac'.length : Int)) (.slice A5 (accIdx ac').length d5) (.slice A6 (plLv lf').length d6) (.slice A7 (plBr L ac'.length t').length d7)
          change bodyPost _ _ _ _ _ (set5 w7 w1.heap.size (.int .i64 (L : Int)) (.int .i64 (ac'.length : Int)) (.slice A5 (accIdx ac').length d5) (.slice A6 (plLv lf').length d6) (.slice A7 (plBr L ac'.length t').length d7))
          rw [hwF]
          have hcF := hgF.cell
          have hne : ∀ g e cs, g = w1.heap.size → e ≠ 26 → ¬ Blk w7 g e cs := fun g e cs eg he hb => by subst eg; exact hB27.ne_ hb (fun h => he h.symm) rfl
          have hLx := hLh.out
          subst hLx
          exact bodyPost_ret (v := .tuple #[.agg #[.int .i64 (a.letters.toNat : Int), .int .i64 (ac'.length : Int), .slice A5 (accIdx ac').length d5, .slice A6 (plLv lf').length d6, .slice A7 (plBr a.letters.toNat ac'.length t').length d7], .int .i64 0]) (by simp [results, Try.results26, go_sem, hcF]) rfl
            ⟨hb07.out.trans (hkF.below (by omega) fun b hb e => by omega), 0, plainA a.letters.toNat ac' lf' t', _, rfl, .inr (.inr ⟨hvv.out, hdH.out.1, hdH.out.2, hNL.out, ac, lf, t, cl, rA, hOK.out, hle, hCAN.out, hcut.out, hlike.out, .inr ⟨hNL'.out, rfl, ac', lf', t', hOK'.out, hle', hCAN'.out, rfl⟩⟩), (TAown.keep hOWN'.out hkF hne rfl hOK'.out hL18.2).weak (by omega)⟩
    · have hin := hide (show inC d 0 8 = false by simp [inC]; omega)
      go_wp2_with (go_at_call 45; refine (within_any _ _ _ _).mono ?_; rintro e w' ⟨rfl, rfl⟩; rw [hin.out])
      obtain ⟨wF, hwF, hgF, hkF⟩ := set5_facts hB23 (.int .i64 0) (.int .i64 0) (.slice none 0 0) (.slice none 0 0) (.slice none 0 0)
      change bodyPost _ _ _ _ _ (set5 w3 w1.heap.size (.int .i64 0) (.int .i64 0) (.slice none 0 0) (.slice none 0 0) (.slice none 0 0))
      rw [hwF]
      have hcF := hgF.cell
      exact bodyPost_ret (v := .tuple #[zeroTA, .int .i64 1]) (by simp [results, Try.results26, go_sem, hcF, zeroTA]) rfl ⟨(hb03).trans (hkF.below (by omega) (fun b hb e => by omega)), 1, zTA, zeroTA, rfl, .inl ⟨.inr hd, rfl, rfl⟩, TAown.zero _ _⟩
end Go.Proofs.Ytnimlcbgeiajiaa
