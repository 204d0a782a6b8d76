/-
  Part XD of a proof.
-/
import Derived.Test.YtpmceapjnnkhjaaGreatDoorPA
import Derived.Test.YtpmceapjnnkhjaaGreatDoorXC
import Derived.Test.YtpmceapjnnkhjaaGreatDoorXB
set_option maxHeartbeats 16000000
set_option maxRecDepth 100000
set_option linter.unusedVariables false
set_option linter.unusedSimpArgs false
namespace Go.Proofs.YtpmceapjnnkhjaaGreatDoor
open Go.RowKit
set_option maxHeartbeats 64000000
set_option maxRecDepth 100000
theorem AllB.keep {w0 w w1 : World} {l : List (Nat × TypeId × Array Value)} (h : AllB w0 w l) (hb : Below w.heap.size w w1) : AllB w0 w1 l :=
 ⟨h.below.trans (hb.mono h.below.size), fun x hx => ⟨(h.blk x hx).1.below hb, (h.blk x hx).2⟩, h.nodup⟩
theorem own_set4t {w : World} {g base n : Nat} {a b c d : Value} {v : Value} {xs : List Value} (h : w.ownsRow base 3 1 v n xs) (hg : Blk w g 56 #[a, b, c, d]) (v0 v1 v2 v3 : Value) : (set4t w g v0 v1 v2 v3).ownsRow base 3 1 v n xs := by
 obtain ⟨wF, hwF, hb, hk⟩ := set4t_facts hg v0 v1 v2 v3
 rw [hwF]
 exact own_ty hk h (fun g' cs e hB => by subst e; exact hB.ne_ hg (by decide) rfl)
theorem im_open {w : World} {g2 g3 tn an k1 k2 k3 k4 c1 c2 c3 c4 B : Nat} {L : Int} {x4 y0 y4 : Value} {A1 A2 A3 A4 : Option Addr} {ts tc st ac : List Int} (hg2 : Blk w g2 25 #[.int .i64 L, .int .i64 (tn : Int), .slice A1 k1 c1, .slice A2 k2 c2, x4]) (hg3 : Blk w g3 28 #[y0, .int .i64 (an : Int), .slice A3 k3 c3, .slice A4 k4 c4, y4])
    (h1 : Sl w B 1 encI A1 ts) (h2 : Sl w B 1 encI A2 tc) (h3 : Sl w B 1 encI A3 st) (h4 : Sl w B 1 encI A4 ac) (hB : B ≤ w.heap.size) (e1 : k1 = ts.length) (e2 : k2 = tc.length) (e3 : k3 = st.length) (e4 : k4 = ac.length)
    (hk1 : k1 ≤ 4000) (hk2 : k2 ≤ 4000) (hk3 : k3 ≤ 4000) (hk4 : k4 ≤ 4000) (i1 : ∀ x ∈ ts, inN tn x = true) (i2 : ∀ x ∈ tc, inN tn x = true) (i3 : ∀ x ∈ st, inN an x = true) (i4 : ∀ x ∈ ac, inN an x = true) (htn : tn ≤ 400) (han : an ≤ 400) (m1 : k1 * k3 ≤ 3000000) (m2 : k2 * k4 ≤ 3000000)
    {u0 u1 u4 u6 u7 u8 u9 u10 u11 u12 u13 u14 u15 u16 u17 u18 u19 u20 u21 u22 u23 u24 u25 u26 u27 u28 u29 u30 u31 u32 u33 u34 u35 u36 u37 u38 u39 u40 u41 u42 u43 u44 u45 u46 u47 u48 u49 u50 u51 u52 u53 u54 u55 u56 u57 u58 u59 u60 u61 u62 u63 u64 u65 u66 u67 u68 u69 u70 u71 u72 u73 u74 u75 u76 u77 u78 u79 u80 u81 u82 u83 u84 u85 u86 u87 u88 u89 u90 u91 u92 u93 u94 u95 u96 u97 u98 u99 u100 u101 u102 u103 u104 u105 u106 u107 u108 u109 u110 u111 u112 u113 u114 u115 u116 u117 u118 u119 u120 u121 u122 u123 u124 u125 u126 u127 u128 u129 u130 u131 u132 : Value}
    {Q : Exit → Act → World → Prop} (hN : Reg.NoQ Q)
    (hQ : ∀ (x18 x19 x20 x21 x22 x23 x24 x25 x26 x27 x28 x29 x30 x31 x32 x33 x34 x35 x36 x37 x38 x39 x40 x41 x42 : Value) (w' : World) (g6 gn gm : Nat) (vS : Value), AllB w w' [(g6, 56, #[.int .i64 L, .slice (some ⟨gn, 0, none⟩) (tn * an) (tn * an), vS, .slice (some ⟨gm, 0, none⟩) (tn * an) (tn * an)]), (gn, 49, (List.replicate (tn * an) (Value.slice none 0 0)).toArray), (gm, 4, ((marksM (tn * an) (pairL (an : Int) (sortU tc) (sortU ac))).map Value.bool).toArray)] →
      w'.ownsRow w.heap.size 3 1 vS (pairL (an : Int) (sortU ts) (sortU st)).length ((pairL (an : Int) (sortU ts) (sortU st)).map (Value.int .i64)) →
      Q .normal ⟨List.toArray (u0 :: u1 :: (.pointer (some ⟨g2, 0, none⟩)) :: (.pointer (some ⟨g3, 0, none⟩)) :: u4 :: (.int .i64 (an : Int)) :: (.pointer (some ⟨g6, 0, none⟩)) :: u7 :: u8 :: u9 :: u10 :: u11 :: u12 :: u13 :: u14 :: u15 :: u16 :: u17 :: x18 :: x19 :: x20 :: x21 :: x22 ::
      x23 :: x24 :: x25 :: x26 :: x27 :: x28 :: x29 :: x30 :: x31 :: x32 :: x33 :: x34 :: x35 :: x36 :: x37 :: x38 :: x39 :: x40 :: x41 :: x42 :: u43 :: u44 :: u45 :: u46 :: u47 :: u48 :: u49 :: u50 :: u51 :: u52 :: u53 :: u54 :: u55 :: u56 :: u57 :: u58 :: u59 ::
      u60 :: u61 :: u62 :: u63 :: u64 :: u65 :: u66 :: u67 :: u68 :: u69 :: u70 :: u71 :: u72 :: u73 :: u74 :: u75 :: u76 :: u77 :: u78 :: u79 :: u80 :: u81 :: u82 :: u83 :: u84 :: u85 :: u86 :: u87 :: u88 :: u89 :: u90 :: u91 :: u92 :: u93 :: u94 :: u95 :: u96 ::
      u97 :: u98 :: u99 :: u100 :: u101 :: u102 :: u103 :: u104 :: u105 :: u106 :: u107 :: u108 :: u109 :: u110 :: u111 :: u112 :: u113 :: u114 :: u115 :: u116 :: u117 :: u118 :: u119 :: u120 :: u121 :: u122 :: u123 :: u124 :: u125 :: u126 :: u127 :: u128 :: u129 ::
      u130 :: u131 :: u132 :: []), []⟩ w') :
    (regionAt Tryz.f24 2).wp Tryz.prog Q ⟨List.toArray (u0 :: u1 :: (.pointer (some ⟨g2, 0, none⟩)) :: (.pointer (some ⟨g3, 0, none⟩)) :: u4 :: (.int .i64 (an : Int)) :: u6 :: u7 :: u8 :: u9 :: u10 :: u11 :: u12 :: u13 :: u14 :: u15 :: u16 :: u17 :: u18 :: u19 :: u20 :: u21 :: u22 :: u23 :: u24 :: u25 :: u26 :: u27 ::
      u28 :: u29 :: u30 :: u31 :: u32 :: u33 :: u34 :: u35 :: u36 :: u37 :: u38 :: u39 :: u40 :: u41 :: u42 :: u43 :: u44 :: u45 :: u46 :: u47 :: u48 :: u49 :: u50 :: u51 :: u52 :: u53 :: u54 :: u55 :: u56 :: u57 :: u58 :: u59 :: u60 :: u61 :: u62 :: u63 :: u64 ::
      u65 :: u66 :: u67 :: u68 :: u69 :: u70 :: u71 :: u72 :: u73 :: u74 :: u75 :: u76 :: u77 :: u78 :: u79 :: u80 :: u81 :: u82 :: u83 :: u84 :: u85 :: u86 :: u87 :: u88 :: u89 :: u90 :: u91 :: u92 :: u93 :: u94 :: u95 :: u96 :: u97 :: u98 :: u99 :: u100 :: u101 ::
      u102 :: u103 :: u104 :: u105 :: u106 :: u107 :: u108 :: u109 :: u110 :: u111 :: u112 :: u113 :: u114 :: u115 :: u116 :: u117 :: u118 :: u119 :: u120 :: u121 :: u122 :: u123 :: u124 :: u125 :: u126 :: u127 :: u128 :: u129 :: u130 :: u131 :: u132 :: []), []⟩ w := by
  conv => arg 2; whnf
  have f2 := hg2.cell
  have f3 := hg3.cell
  have nn : ∀ {n : Nat} {l : List Int}, (∀ x ∈ l, inN n x = true) → ∀ p ∈ l, ∃ k : Nat, p = (k : Int) ∧ k < n := fun h p hp => by obtain ⟨q, hq, hl⟩ := inN_nat (h p hp); exact ⟨q, hq, by simpa using hl⟩
  have hs1 := sortU_len ts
  have hs2 := sortU_len tc
  have hs3 := sortU_len st
  have hs4 := sortU_len ac
  have hP1 := hide (fun (wx : World) (hb : Below w.heap.size w wx) => show Calls Tryz.prog 48 #[.slice A1 k1 c1, .slice A3 k3 c3, .int .i64 (an : Int)] wx (Ret fun r w' => Below wx.heap.size wx w' ∧ w'.ownsRow wx.heap.size 3 1 r (pairL (an : Int) (sortU ts) (sortU st)).length ((pairL (an : Int) (sortU ts) (sortU st)).map (Value.int .i64))) from by
    rw [e1, e3]
    have := hb.size
    exact pairs_any (M := tn) (N := an) (h1.keep (w' := wx) (B' := B) (fun p hp => hb.cell (by omega)) (Nat.le_refl _)) (h3.keep (w' := wx) (B' := B) (fun p hp => hb.cell (by omega)) (Nat.le_refl _)) (by omega) (by omega) (by omega) (by omega) (nn i1) (nn i3) (by omega) (by omega) (Nat.le_trans (Nat.mul_le_mul hs1 hs3) (by rw [← e1, ← e3]; exact m1)) (by omega) (by omega))
  have hP2 := hide (fun (wx : World) (hb : Below w.heap.size w wx) => show Calls Tryz.prog 48 #[.slice A2 k2 c2, .slice A4 k4 c4, .int .i64 (an : Int)] wx (Ret fun r w' => Below wx.heap.size wx w' ∧ w'.ownsRow wx.heap.size 3 1 r (pairL (an : Int) (sortU tc) (sortU ac)).length ((pairL (an : Int) (sortU tc) (sortU ac)).map (Value.int .i64))) from by
    rw [e2, e4]
    have := hb.size
    exact pairs_any (M := tn) (N := an) (h2.keep (w' := wx) (B' := B) (fun p hp => hb.cell (by omega)) (Nat.le_refl _)) (h4.keep (w' := wx) (B' := B) (fun p hp => hb.cell (by omega)) (Nat.le_refl _)) (by omega) (by omega) (by omega) (by omega) (nn i2) (nn i4) (by omega) (by omega) (Nat.le_trans (Nat.mul_le_mul hs2 hs4) (by rw [← e2, ← e4]; exact m2)) (by omega) (by omega))
  obtain ⟨N, hNe⟩ : ∃ N, N = tn * an := ⟨_, rfl⟩
  have hNl : N ≤ 400 * 400 := by rw [hNe]; exact Nat.mul_le_mul htn han
  have hNc : (tn : Int) * (an : Int) = (N : Int) := by rw [hNe, Int.natCast_mul]
  have hin : Hid (∀ x ∈ pairL (an : Int) (sortU tc) (sortU ac), inN N x = true) := by
    intro x hx
    obtain ⟨p, hp, q, hq, rfl⟩ := mem_pairL.1 hx
    rw [← hNc]
    exact inN_pr (i2 p (mem_sortU.1 hp)) (i4 q (mem_sortU.1 hq))
  have hpl : (pairL (an : Int) (sortU tc) (sortU ac)).length ≤ 3000000 := by
    rw [pairL_len]
    exact Nat.le_trans (Nat.mul_le_mul hs2 hs4) (by rw [← e2, ← e4]; exact m2)
  obtain ⟨PS, hPS⟩ : ∃ PS, PS = pairL (an : Int) (sortU ts) (sortU st) := ⟨_, rfl⟩
  obtain ⟨PA, hPA⟩ : ∃ PA, PA = pairL (an : Int) (sortU tc) (sortU ac) := ⟨_, rfl⟩
  rw [← hPS] at hP1
  rw [← hPA] at hP2 hin hpl
  rw [← hPS, ← hPA, ← hNe] at hQ
  have hNcH := hide hNc
  have hmb : tn * an ≤ 400 * 400 := Nat.mul_le_mul htn han
  clear hs1 hs2 hs3 hs4 e1 e2 e3 e4 h1 h2 h3 h4 hPS hPA i1 i2 i3 i4 nn m1 m2 hNe
  refine Reg.region_splI [0, 1, 0, 4, 0, 28, 60, 0, 128, 0, 512, 0, 3968, 0, 8192, 0, 57344, 0, 131072, 0, 524288, 0, 4071296, 8388480, 16777215, 0, 67108863] (.node 6 12 (.node 6 25 (.node 12 25 (.node 22 25 (.node 23 25 (.node 24 25 (.leaf [0, 1, 2, 3, 4, 5, 7, 8, 9, 10, 11, 13, 14, 15, 16, 17, 18, 19, 20, 21, 6, 12, 22, 23, 24, 25, 26]) (.leaf [0, 1, 2, 3, 4, 5, 7, 8, 9, 10, 11, 13, 14, 15, 16, 17, 18, 19, 20, 21, 6, 12, 22, 23, 25, 24, 26])) (.leaf [0, 1, 2, 3, 4, 5, 7, 8, 9, 10, 11, 13, 14, 15, 16, 17, 18, 19, 20, 21, 6, 12, 22, 25, 23, 24, 26])) (.leaf [0, 1, 2, 3, 4, 5, 7, 8, 9, 10, 11, 13, 14, 15, 16, 17, 18, 19, 20, 21, 6, 12, 25, 22, 23, 24, 26])) (.leaf [0, 1, 2, 3, 4, 5, 7, 8, 9, 10, 11, 13, 14, 15, 16, 17, 18, 19, 20, 21, 6, 25, 12, 22, 23, 24, 26])) (.leaf [0, 1, 2, 3, 4, 5, 7, 8, 9, 10, 11, 13, 14, 15, 16, 17, 18, 19, 20, 21, 25, 6, 12, 22, 23, 24, 26])) (.node 6 22 (.node 6 25 (.node 22 25 (.node 23 25 (.node 24 25 (.leaf [0, 1, 2, 3, 4, 5, 7, 8, 9, 10, 11, 13, 14, 15, 16, 17, 18, 19, 20, 21, 12, 6, 22, 23, 24, 25, 26]) (.leaf [0, 1, 2, 3, 4, 5, 7, 8, 9, 10, 11, 13, 14, 15, 16, 17, 18, 19, 20, 21, 12, 6, 22, 23, 25, 24, 26])) (.leaf [0, 1, 2, 3, 4, 5, 7, 8, 9, 10, 11, 13, 14, 15, 16, 17, 18, 19, 20, 21, 12, 6, 22, 25, 23, 24, 26])) (.leaf [0, 1, 2, 3, 4, 5, 7, 8, 9, 10, 11, 13, 14, 15, 16, 17, 18, 19, 20, 21, 12, 6, 25, 22, 23, 24, 26])) (.node 12 25 (.leaf [0, 1, 2, 3, 4, 5, 7, 8, 9, 10, 11, 13, 14, 15, 16, 17, 18, 19, 20, 21, 12, 25, 6, 22, 23, 24, 26]) (.leaf [0, 1, 2, 3, 4, 5, 7, 8, 9, 10, 11, 13, 14, 15, 16, 17, 18, 19, 20, 21, 25, 12, 6, 22, 23, 24, 26]))) (.node 6 23 (.node 6 25 (.node 23 25 (.node 24 25 (.leaf [0, 1, 2, 3, 4, 5, 7, 8, 9, 10, 11, 13, 14, 15, 16, 17, 18, 19, 20, 21, 12, 22, 6, 23, 24, 25, 26]) (.leaf [0, 1, 2, 3, 4, 5, 7, 8, 9, 10, 11, 13, 14, 15, 16, 17, 18, 19, 20, 21, 12, 22, 6, 23, 25, 24, 26])) (.leaf [0, 1, 2, 3, 4, 5, 7, 8, 9, 10, 11, 13, 14, 15, 16, 17, 18, 19, 20, 21, 12, 22, 6, 25, 23, 24, 26])) (.node 12 25 (.node 22 25 (.leaf [0, 1, 2, 3, 4, 5, 7, 8, 9, 10, 11, 13, 14, 15, 16, 17, 18, 19, 20, 21, 12, 22, 25, 6, 23, 24, 26]) (.leaf [0, 1, 2, 3, 4, 5, 7, 8, 9, 10, 11, 13, 14, 15, 16, 17, 18, 19, 20, 21, 12, 25, 22, 6, 23, 24, 26])) (.leaf [0, 1, 2, 3, 4, 5, 7, 8, 9, 10, 11, 13, 14, 15, 16, 17, 18, 19, 20, 21, 25, 12, 22, 6, 23, 24, 26]))) (.node 6 25 (.node 24 25 (.leaf [0, 1, 2, 3, 4, 5, 7, 8, 9, 10, 11, 13, 14, 15, 16, 17, 18, 19, 20, 21, 12, 22, 23, 6, 24, 25, 26]) (.leaf [0, 1, 2, 3, 4, 5, 7, 8, 9, 10, 11, 13, 14, 15, 16, 17, 18, 19, 20, 21, 12, 22, 23, 6, 25, 24, 26])) (.node 12 25 (.node 22 25 (.node 23 25 (.leaf [0, 1, 2, 3, 4, 5, 7, 8, 9, 10, 11, 13, 14, 15, 16, 17, 18, 19, 20, 21, 12, 22, 23, 25, 6, 24, 26]) (.leaf [0, 1, 2, 3, 4, 5, 7, 8, 9, 10, 11, 13, 14, 15, 16, 17, 18, 19, 20, 21, 12, 22, 25, 23, 6, 24, 26])) (.leaf [0, 1, 2, 3, 4, 5, 7, 8, 9, 10, 11, 13, 14, 15, 16, 17, 18, 19, 20, 21, 12, 25, 22, 23, 6, 24, 26])) (.leaf [0, 1, 2, 3, 4, 5, 7, 8, 9, 10, 11, 13, 14, 15, 16, 17, 18, 19, 20, 21, 25, 12, 22, 23, 6, 24, 26])))))) (by kernel_rfl) hN ?_
  dsimp only [Reg.Spl.goalI]
  have hA := (AllB.nil w).drew
  clear hNc
  repeat' (with_reducible refine And.intro ?_ ?_)
  all_goals
    refine Reg.restI_walkE [0, 1, 2, 3, 4, 5, 7, 8, 9, 10, 11, 13, 14, 15, 16, 17, 18, 19, 20, 21] _ rfl rfl (by kernel_rfl) ?_
    intro Qf hQf
    go_wp2_with fail
    refine hQf _ _ ⟨rfl, ?_⟩
    clear hQf
    iterate 7
      first
      | (refine Reg.restI_act 6 _ [1, 3, 8, 10, 14, 18, 20] rfl (by kernel_rfl) ?_
         intro Qf hQf
         simp only [gT, gS, gZ]
         refine wpList_make Tryz.underlying54 info50 (by omega) (by omega) N (by omega) rfl _ _ rfl (congrArg (Value.int .i64) hNcH.out) (congrArg (Value.int .i64) hNcH.out) ?_
         intro gn w1 hb hB hg
         first | refine hQf _ _ ⟨Reg.same_below hB _ rfl, ?_⟩ | refine ⟨Reg.same_below hB _ rfl, ?_⟩
         replace hA := hA.add hB hb hg
         try replace hS := own_below hS hB
         try replace hC := own_below hC hB
         try clear hQf
         clear hb hB hg)
      | (refine Reg.restI_act 12 _ [1, 3, 8, 10, 14, 18, 20] rfl (by kernel_rfl) ?_
         intro Qf hQf
         simp only [gT, gS, gZ]
         have hcall := hP1.out _ hA.below
         go_wp2_with fail
         refine Calls.ret hcall ?_
         rintro vS w1 ⟨hB, hown⟩
         have hS := own_mono hown hA.below.size
         obtain ⟨AS, cS, rfl⟩ := slice_of_own hown
         clear hcall hown
         go_wp2_with fail
         first | refine hQf _ _ ⟨Reg.same_below hB _ rfl, ?_⟩ | refine ⟨Reg.same_below hB _ rfl, ?_⟩
         replace hA := hA.keep hB
         try clear hQf
         clear hB)
      | (refine Reg.restI_act 22 _ [1, 3, 8, 10, 14, 18, 20] rfl (by kernel_rfl) ?_
         intro Qf hQf
         simp only [gT, gS, gZ]
         have hcall := hP2.out _ hA.below
         go_wp2_with fail
         refine Calls.ret hcall ?_
         rintro vC w1 ⟨hB, hown⟩
         have hC := own_mono hown hA.below.size
         clear hcall hown
         go_wp2_with fail
         first | refine hQf _ _ ⟨Reg.same_below hB _ rfl, ?_⟩ | refine ⟨Reg.same_below hB _ rfl, ?_⟩
         replace hA := hA.keep hB
         replace hS := own_below hS hB
         try clear hQf
         clear hB)
      | (refine Reg.restI_act 23 _ [1, 3, 8, 10, 14, 18, 20] rfl (by kernel_rfl) ?_
         intro Qf hQf
         simp only [gT, gS, gZ]
         obtain ⟨AC, cC, eC', hSC⟩ := own_slI hC rfl (Nat.le_refl _) (by omega)
         subst eC'
         have hcall := marks_any (c := cC) hSC (Nat.le_refl _) (show N ≤ 200000 from by omega) hin.out
         rw [← hNcH.out] at hcall
         clear hSC
         go_wp2_with fail
         refine Calls.ret hcall ?_
         rintro vM w1 ⟨hB, ⟨gm, -, rfl, hb⟩, hfr⟩
         have hg := hfr gm rfl
         rw [marksM_len]
         clear hcall hC
         go_wp2_with fail
         first | refine hQf _ _ ⟨Reg.same_below hB _ rfl, ?_⟩ | refine ⟨Reg.same_below hB _ rfl, ?_⟩
         replace hA := hA.add hB hb hg
         replace hS := own_below hS hB
         try clear hQf
         clear hb hB hg hfr)
      | (refine Reg.restI_walkE [25] _ rfl rfl (by kernel_rfl) ?_
         intro Qf hQf
         refine wpList_alloc info79 rfl rfl ?_
         intro g6 w1 hb hB hg
         refine hQf _ _ ⟨rfl, ?_⟩
         replace hA := hA.add hB hb hg
         try replace hS := own_below hS hB
         try replace hC := own_below hC hB
         try clear hQf
         clear hb hB hg)
      | (refine Reg.restI_walkE [24] _ rfl rfl (by kernel_rfl) ?_
         intro Qf hQf
         go_wp2_with fail
         first | refine hQf _ _ ⟨rfl, ?_⟩ | refine ⟨rfl, ?_⟩
         try clear hQf)
      | (refine Reg.restI_walkE [26] _ rfl rfl (by kernel_rfl) ?_
         intro Qf hQf
         have hb3 := (hA.blk (g6, 56, #[.int .i64 0, .slice none 0 0, .slice none 0 0, .slice none 0 0]) (by simp [Value.cells])).1
         have hc3 := hb3.cell
         have hf3 := hb3.frozen
         have hl3 := hb3.lt
         have hS6 := fun v0 v1 v2 v3 => own_set4t hS hb3 v0 v1 v2 v3
         have hS6H := hide hS6
         clear hb3 hS6
         go_wp2_with fail
         first | refine hQf _ _ ⟨rfl, ?_⟩ | refine ⟨rfl, ?_⟩
         try clear hQf)
    refine Reg.restI_end ?_
    obtain ⟨hbel, hblk, hnd⟩ := hA
    simp only [List.map_cons, List.map_nil, List.nodup_cons, List.mem_cons, List.not_mem_nil, not_or, or_false, List.nodup_nil, not_false_eq_true, and_true] at hnd
    refine hQ _ _ _ _ _ _ _ _ _ _ _ _ _ _ _ _ _ _ _ _ _ _ _ _ _ _ g6 gn gm _ ?_ (hS6H.out _ _ _ _)
    have hA2 : AllB w w1 [(g6, 56, #[.int .i64 0, .slice none 0 0, .slice none 0 0, .slice none 0 0]), (gn, 49, (List.replicate N (Value.slice none 0 0)).toArray), (gm, 4, ((marksM N PA).map Value.bool).toArray)] := by
      refine ⟨hbel, ?_, ?_⟩
      · intro x hx
        rw [← madeN] at hx
        refine hblk x ?_
        simp only [List.mem_cons, List.not_mem_nil, or_false] at hx ⊢
        rcases hx with rfl | rfl | rfl
        · first | exact .inl rfl | exact .inr (.inl rfl) | exact .inr (.inr rfl)
        · first | exact .inl rfl | exact .inr (.inl rfl) | exact .inr (.inr rfl)
        · first | exact .inl rfl | exact .inr (.inl rfl) | exact .inr (.inr rfl)
      · simp only [List.map_cons, List.map_nil, List.nodup_cons, List.mem_cons, List.not_mem_nil, not_or, or_false, List.nodup_nil, not_false_eq_true, and_true]
        omega
    exact hA2.set4t _ _ _ _
end Go.Proofs.YtpmceapjnnkhjaaGreatDoor
