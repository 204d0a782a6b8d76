/-
  Part JM of a proof.
-/
import Derived.Test.YtakpmdmjbgipiaaGreatDoorPA
import Derived.Test.YtakpmdmjbgipiaaGreatDoorJL
set_option maxHeartbeats 16000000
set_option maxRecDepth 100000
set_option linter.unusedVariables false
set_option linter.unusedSimpArgs false
namespace Go.Proofs.YtakpmdmjbgipiaaGreatDoor
open Go.RowKit
set_option maxHeartbeats 16000000
set_option maxRecDepth 100000
theorem infoT77 : (Tryz.prog.info? 77).map (fun i => (i.zero, i.size, i.bytes)) = some (some (.agg #[.slice none 0 0, .slice none 0 0]), 2, 48) := by kernel_rfl
theorem OwnDF.below' {w w' : World} {base : Nat} {v : Value} {t : List (List Nat)} {ac : List Bool} (h : OwnDF w base v t ac) (hb : Below w.heap.size w w') : OwnDF w' base v t ac := h.kept (Kept.of_below hb (fun _ => False)) (fun _ x => x.elim) (Nat.le_refl _)
theorem OwnDF.set {w w' : World} {base g : Nat} {cs : Array Value} {v : Value} {t : List (List Nat)} {ac : List Bool} (h : OwnDF w base v t ac) (hB : Blk w g 77 cs) (hk : Kept w w' (fun k => k = g)) : OwnDF w' base v t ac := by
 obtain ⟨vN, vA, ws, e, hA, hN, hR⟩ := h
 have hx : ∀ {e : TypeId} {v : Value} {n : Nat} {xs : List Value}, e ≠ 77 → w.ownsRow base e 1 v n xs → w'.ownsRow base e 1 v n xs := fun he ho => hk.ownsRow ho fun g' hg e' => own_blk_ne ho hB he (by rw [hg, e'])
 exact ⟨vN, vA, ws, e, hx (by decide) hA, hx (by decide) hN, hR.imp fun v d hh => ⟨hx (by decide) hh.1, fun _ _ => trivial⟩⟩
theorem tab_own {w : World} {base L : Nat} {vN vA : Value} {t : List (List Nat)} {ac : List Bool} (h : OwnDF w base (.agg #[vN, vA]) t ac) (hok : DOK L t ac) (hn : ac.length ≤ 200000) (hL : L ≤ 8) : TabF w L ac.length vN vA t ac :=
 ⟨h.read (fun r hr => by have := (hok.row r hr).1; omega) (by have := hok.len; omega) (by omega), hok, rfl⟩
theorem OwnDF.agg {w : World} {base : Nat} {v : Value} {t : List (List Nat)} {ac : List Bool} (h : OwnDF w base v t ac) : ∃ A1 c1 A2 c2, v = .agg #[.slice A1 t.length c1, .slice A2 ac.length c2] := by
 obtain ⟨vN, vA, ws, e, hA, hN, -⟩ := h
 obtain ⟨A1, c1, rfl⟩ := slice_of_own hN
 obtain ⟨A2, c2, rfl⟩ := slice_of_own hA
 exact ⟨A1, c1, A2, c2, e⟩
theorem blkT {w : World} {g : Nat} (h : Blk w g 77 (Value.agg #[.slice none 0 0, .slice none 0 0]).cells) : Blk w g 77 #[.slice none 0 0, .slice none 0 0] := by simpa [Value.cells] using h
theorem jn_tabs {w : World} {g3 g4 L : Nat} {x1 x2 x3 x4 x5 y1 y2 y3 y4 y5 : Value} {t u : List (List Nat)} {ac bc : List Bool}
    (hA : IsWA w w.heap.size (.agg #[x1, x2, x3, x4, x5]) (plainW L t ac)) (hB : IsWA w w.heap.size (.agg #[y1, y2, y3, y4, y5]) (plainW L u bc)) (hok : DOK L t ac) (hok' : DOK L u bc) (hn : ac.length ≤ 400) (hn' : bc.length ≤ 400) (hL1 : 1 ≤ L) (hL : L ≤ 8)
    (h3 : Blk w g3 28 #[x1, x2, x3, x4, x5]) (h4 : Blk w g4 28 #[y1, y2, y3, y4, y5])
    {u0 u1 u2 u5 u6 u7 u8 u9 u10 u11 u12 u13 u14 u15 u16 u17 u18 u19 u20 u21 u22 u23 u24 u25 u26 u27 u28 u29 u30 u31 u32 u33 u34 u35 u36 u37 u38 u39 u40 u41 u42 u43 u44 u45 u46 u47 u48 u49 u50 u51 u52 u53 u54 u55 u56 u57 u58 u59 u60 u61 u62 u63 u64 u65 u66 u67 u68 u69 u70 u71 u72 u73 u74 u75 u76 u77 u78 u79 u80 u81 u82 u83 u84 u85 u86 u87 u88 u89 u90 u91 u92 u93 u94 u95 u96 u97 u98 u99 u100 u101 u102 u103 u104 u105 u106 u107 u108 u109 u110 u111 u112 u113 u114 u115 u116 u117 u118 u119 u120 u121 u122 u123 u124 u125 u126 u127 u128 u129 : Value}
    {Q : Exit → Act → World → Prop} (hN : Reg.NoQ Q)
    (hQ : ∀ (x18 x19 x20 x21 : Value) (w' : World) (g7 g8 : Nat) (v7 a7 v8 a8 : Value), Below w.heap.size w w' → TabF w' L ac.length v7 a7 t ac → TabF w' L bc.length v8 a8 u bc → Blk w' g7 77 #[v7, a7] → Blk w' g8 77 #[v8, a8] → w.heap.size ≤ g7 ∧ w.heap.size ≤ g8 →
      Q .normal ⟨List.toArray (u0 :: u1 :: u2 :: (.pointer (some ⟨g3, 0, none⟩)) :: (.pointer (some ⟨g4, 0, none⟩)) :: u5 :: u6 :: (.pointer (some ⟨g7, 0, none⟩)) :: (.pointer (some ⟨g8, 0, none⟩)) :: u9 :: u10 :: u11 :: u12 :: u13 :: u14 :: u15 :: u16 :: u17 :: x18 :: x19 :: x20 :: x21 ::
      u22 :: u23 :: u24 :: u25 :: u26 :: u27 :: u28 :: u29 :: u30 :: u31 :: u32 :: u33 :: u34 :: u35 :: u36 :: u37 :: u38 :: u39 :: u40 :: u41 :: u42 :: u43 :: u44 :: u45 :: u46 :: u47 :: u48 :: u49 :: u50 :: u51 :: u52 :: u53 :: u54 :: u55 :: u56 :: u57 :: u58 ::
      u59 :: u60 :: u61 :: u62 :: u63 :: u64 :: u65 :: u66 :: u67 :: u68 :: u69 :: u70 :: u71 :: u72 :: u73 :: u74 :: u75 :: u76 :: u77 :: u78 :: u79 :: u80 :: u81 :: u82 :: u83 :: u84 :: u85 :: u86 :: u87 :: u88 :: u89 :: u90 :: u91 :: u92 :: u93 :: u94 :: u95 ::
      u96 :: u97 :: u98 :: u99 :: u100 :: u101 :: u102 :: u103 :: u104 :: u105 :: u106 :: u107 :: u108 :: u109 :: u110 :: u111 :: u112 :: u113 :: u114 :: u115 :: u116 :: u117 :: u118 :: u119 :: u120 :: u121 :: u122 :: u123 :: u124 :: u125 :: u126 :: u127 :: u128 ::
      u129 :: []), []⟩ w') :
    (regionAt Tryz.f40 1).wp Tryz.prog Q ⟨List.toArray (u0 :: u1 :: u2 :: (.pointer (some ⟨g3, 0, none⟩)) :: (.pointer (some ⟨g4, 0, none⟩)) :: u5 :: u6 :: u7 :: u8 :: u9 :: u10 :: u11 :: u12 :: u13 :: u14 :: u15 :: u16 :: u17 :: u18 :: u19 :: u20 :: u21 :: u22 :: u23 :: u24 :: u25 :: u26 :: u27 :: u28 :: u29 ::
      u30 :: u31 :: u32 :: u33 :: u34 :: u35 :: u36 :: u37 :: u38 :: u39 :: u40 :: u41 :: u42 :: u43 :: u44 :: u45 :: u46 :: u47 :: u48 :: u49 :: u50 :: u51 :: u52 :: u53 :: u54 :: u55 :: u56 :: u57 :: u58 :: u59 :: u60 :: u61 :: u62 :: u63 :: u64 :: u65 :: u66 ::
      u67 :: u68 :: u69 :: u70 :: u71 :: u72 :: u73 :: u74 :: u75 :: u76 :: u77 :: u78 :: u79 :: u80 :: u81 :: u82 :: u83 :: u84 :: u85 :: u86 :: u87 :: u88 :: u89 :: u90 :: u91 :: u92 :: u93 :: u94 :: u95 :: u96 :: u97 :: u98 :: u99 :: u100 :: u101 :: u102 :: u103 ::
      u104 :: u105 :: u106 :: u107 :: u108 :: u109 :: u110 :: u111 :: u112 :: u113 :: u114 :: u115 :: u116 :: u117 :: u118 :: u119 :: u120 :: u121 :: u122 :: u123 :: u124 :: u125 :: u126 :: u127 :: u128 :: u129 :: []), []⟩ w := by
  conv => arg 2; whnf
  refine Reg.region_spl [0, 1, 0, 7, 0, 0, 63, 127] (.node 1 4 (.node 1 5 (.node 3 4 (.node 3 5 (.node 4 5 (.leaf [0, 2, 1, 3, 4, 5, 6, 7]) (.leaf [0, 2, 1, 3, 5, 4, 6, 7])) (.leaf [0, 2, 1, 5, 3, 4, 6, 7])) (.node 3 5 (.leaf [0, 2, 1, 4, 3, 5, 6, 7]) (.node 4 5 (.leaf [0, 2, 1, 4, 5, 3, 6, 7]) (.leaf [0, 2, 1, 5, 4, 3, 6, 7])))) (.node 3 4 (.leaf [0, 2, 5, 1, 3, 4, 6, 7]) (.leaf [0, 2, 5, 1, 4, 3, 6, 7]))) (.node 1 5 (.node 3 5 (.leaf [0, 2, 4, 1, 3, 5, 6, 7]) (.leaf [0, 2, 4, 1, 5, 3, 6, 7])) (.node 4 5 (.leaf [0, 2, 4, 5, 1, 3, 6, 7]) (.leaf [0, 2, 5, 4, 1, 3, 6, 7])))) (by kernel_rfl) hN ?_
  dsimp only [Reg.Spl.goal]
  have b0 := hide (drewB w)
  have hc3 := h3.cell
  have hc4 := h4.cell
  have hAH := hide hA
  have hBH := hide hB
  have hokH := hide hok
  have hokH' := hide hok'
  clear hA hB hok hok' h3 h4
  repeat' (with_reducible refine And.intro ?_ ?_)
  all_goals
    refine Reg.rest_walkE [0, 2] _ rfl rfl (by kernel_rfl) ?_
    intro Qf hQf
    go_wp2_with fail
    refine hQf _ _ ?_
    clear hQf
    iterate 4
      first
      | (refine Reg.rest_act' 1 _ [2] rfl (by kernel_rfl) ?_
         intro Qf hQf
         simp only [gT, gS, gZ]
         have hcall := table_any (hAH.out.keep (fun p hp => b0.out.cell hp) b0.out.size) hokH.out (by omega) hL1 hL
         go_wp2_with fail
         refine Calls.ret hcall ?_
         rintro r1 w1 ⟨hb, hD⟩
         obtain ⟨T1, d1, T2, d2, rfl⟩ := hD.agg
         have hTA := hide hD
         replace b0 := hide (b0.out.trans (hb.mono b0.out.size))
         try replace hG7 := hide (hG7.out.below hb)
         try replace hG8 := hide (hG8.out.below hb)
         clear hcall hD
         go_wp2_with fail
         first | refine hQf _ _ ⟨Reg.same_below hb [2] rfl, ?_⟩ | refine ⟨Reg.same_below hb [2] rfl, ?_⟩
         try clear hQf
         clear hb)
      | (refine Reg.rest_act' 3 _ [] rfl (by kernel_rfl) ?_
         intro Qf hQf
         simp only [gT, gS, gZ]
         have hcall := table_any (hBH.out.keep (fun p hp => b0.out.cell hp) b0.out.size) hokH'.out (by omega) hL1 hL
         go_wp2_with fail
         refine Calls.ret hcall ?_
         rintro r2 w2 ⟨hb, hD⟩
         obtain ⟨U1, k1, U2, k2, rfl⟩ := hD.agg
         have hTB := hide hD
         replace hTA := hide (hTA.out.below' hb)
         replace b0 := hide (b0.out.trans (hb.mono b0.out.size))
         try replace hG7 := hide (hG7.out.below hb)
         try replace hG8 := hide (hG8.out.below hb)
         clear hcall hD
         go_wp2_with fail
         first | refine hQf _ _ ⟨Reg.nm, ?_⟩ | refine ⟨Reg.nm, ?_⟩
         try clear hQf
         clear hb)
      | (refine Reg.rest_walkE [4] _ rfl rfl (by kernel_rfl) ?_
         intro Qf hQf
         refine wpList_alloc infoT77 rfl rfl ?_
         intro g7 w7 hB hb hg
         refine hQf _ _ ?_
         have hge7 := Nat.le_trans b0.out.size hg
         replace b0 := hide (b0.out.trans (hb.mono b0.out.size))
         try replace hTA := hide (hTA.out.below' hb)
         try replace hTB := hide (hTB.out.below' hb)
         have hne : True := trivial
         try (have hne' := hG8.out.lt; replace hne : g7 ≠ g8 := by omega)
         try replace hG8 := hide (hG8.out.below hb)
         have hG7 := hide hB
         try clear hQf
         try clear hne'
         clear hB hb hg)
      | (refine Reg.rest_walkE [5] _ rfl rfl (by kernel_rfl) ?_
         intro Qf hQf
         refine wpList_alloc infoT77 rfl rfl ?_
         intro g8 w8 hB hb hg
         refine hQf _ _ ?_
         have hge8 := Nat.le_trans b0.out.size hg
         replace b0 := hide (b0.out.trans (hb.mono b0.out.size))
         try replace hTA := hide (hTA.out.below' hb)
         try replace hTB := hide (hTB.out.below' hb)
         have hne : True := trivial
         try (have hne' := hG7.out.lt; replace hne : g7 ≠ g8 := by omega)
         try replace hG7 := hide (hG7.out.below hb)
         have hG8 := hide hB
         try clear hQf
         try clear hne'
         clear hB hb hg)
  all_goals
    have hS7 := blkT hG7.out
    have hS8 := blkT hG8.out
    obtain ⟨wF, hwF, hBF, hKF⟩ := set2_facts hS7 (.slice T1 t.length d1) (.slice T2 ac.length d2)
    have hS8F := hS8.kept hKF (fun e => hne e.symm)
    obtain ⟨wG, hwG, hBG, hKG⟩ := set2_facts hS8F (.slice U1 u.length k1) (.slice U2 bc.length k2)
    have hf7 := hS7.frozen
    have hl7 := hS7.lt
    have hc7 := hS7.cell
    have hf8 := hS8F.frozen
    have hl8 := hS8F.lt
    have hc8 := hS8F.cell
    have hB7 := hide (hBF.kept hKG hne)
    have hB8 := hide hBG
    have hA2 := hide (tab_own ((hTA.out.set hS7 hKF).set hS8F hKG) hokH.out (by omega) hL)
    have hB2 := hide (tab_own ((hTB.out.set hS7 hKF).set hS8F hKG) hokH'.out (by omega) hL)
    have s0 := b0.out.size
    have sF := hKF.size
    have bG := hide ((b0.out.trans (hKF.below s0 fun b hb e => by omega)).trans (hKG.below (Nat.le_trans s0 sF) fun b hb e => by omega))
    unfold set2 at hwF hwG
    clear hS7 hS8 hBF hBG hKF hKG hS8F hTA hTB hG7 hG8 b0 hAH hBH
    refine Reg.rest_walkE [6] _ rfl rfl (by kernel_rfl) ?_
    intro Qf hQf
    go_wp2_with fail
    first | refine hQf _ _ ?_ | skip
    try clear hQf
    refine Reg.rest_walkE [7] _ rfl rfl (by kernel_rfl) ?_
    intro Qf hQf
    go_wp2_with fail
    first | refine hQf _ _ ?_ | skip
    try clear hQf
    refine Reg.rest_end ?_
    refine hQ _ _ _ _ wG g7 g8 _ _ _ _ bG.out hA2.out hB2.out hB7.out hB8.out ⟨hge7, hge8⟩
end Go.Proofs.YtakpmdmjbgipiaaGreatDoor
