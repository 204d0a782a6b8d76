/-
  Part XC of a proof.
-/
import Derived.Laws.BitsAllLaws
import Derived.Laws.EntriesVeiled
import Derived.Test.YtbjdgepfhhafjaaDoorXB
import Derived.Test.YtbjdgepfhhafjaaDoorXA
set_option maxHeartbeats 16000000
set_option maxRecDepth 100000
namespace Go.Proofs.YtbjdgepfhhafjaaDoor
open Go.RowKit
structure BWU (wb w : World) (gb gm gM L : Nat) (c1 cap4 cap5 cap6 vl vleaf vbr : Value) (l lf : List Nat) (t : List (List (List Nat))) : Prop where
 kept : Kept wb w (fun k => k = gb)
 bld : BldU w wb.heap.size gb gm (.int .i64 L) c1 (.func (.func 50) #[] #[cap4]) (.func (.func 51) #[] #[cap5]) (.func (.func 52) #[] #[cap6]) vl l
 mach : Blk w gM 79 #[.int .i64 L, .slice none 0 0, vleaf, vbr]
 lfs : IntRow w wb.heap.size vleaf lf
 tab : Tab w wb.heap.size vbr t
 gm_ : wb.heap.size ≤ gm
 gM_ : wb.heap.size ≤ gM
section
variable {wb w w' : World} {gb gm gM L : Nat} {c1 cap4 cap5 cap6 vl vl' vleaf vbr : Value} {l l' lf : List Nat} {t : List (List (List Nat))}
theorem BWU.list (h : BWU wb w gb gm gM L c1 cap4 cap5 cap6 vl vleaf vbr l lf t) (hk : Kept w w' (fun k => k = gb ∨ k = gm ∨ vl.ownBlock = some k))
  (hb : BldU w' wb.heap.size gb gm (.int .i64 L) c1 (.func (.func 50) #[] #[cap4]) (.func (.func 51) #[] #[cap5]) (.func (.func 52) #[] #[cap6]) vl' l') : BWU wb w' gb gm gM L c1 cap4 cap5 cap6 vl' vleaf vbr l' lf t := by
 have h3 : ∀ (e : TypeId), e ≠ 100 → 92 ≠ e → ∀ g cs, (g = gb ∨ g = gm ∨ vl.ownBlock = some g) → ¬ Blk w g e cs := fun e h1 h2 g cs hx hb => h.bld.not hb h1 h2 hx
 obtain ⟨us, ht⟩ := h.tab.open
 refine ⟨h.kept.trans hk (fun b hb hx => ?_), hb, h.mach.kept hk (h.bld.not h.mach (by decide) (by decide)), own_ty hk h.lfs (h3 3 (by decide) (by decide)),
  (ht.keep hk (h3 3 (by decide) (by decide)) (h3 24 (by decide) (by decide)) fun g hg hx => ?_).close, h.gm_, h.gM_⟩
 ·rcases hx with hx | hx | hx
  ·exact hx
  ·have := h.gm_; omega
  ·have := own_base h.bld.row hx; omega
 ·rcases ht.own.2 with ⟨rfl, _⟩ | ⟨g', cap, cur, rfl, _, hh, _⟩
  ·simp [Value.ownBlock] at hg
  ·have : g' = g := by simpa [Value.ownBlock] using hg
   subst this
   exact h3 81 (by decide) (by decide) _ cur hx hh
theorem BWU.below (h : BWU wb w gb gm gM L c1 cap4 cap5 cap6 vl vleaf vbr l lf t) (hb : Below w.heap.size w w') : BWU wb w' gb gm gM L c1 cap4 cap5 cap6 vl vleaf vbr l lf t :=
 h.list (Kept.of_below hb _) (h.bld.below hb)
end
def upd (f : Nat → Nat) (i j : Nat) : Nat → Nat := fun k => if k = i then j else f k
theorem own_blk {w : World} {base size n : Nat} {e : TypeId} {v : Value} {xs : List Value} (h : w.ownsRow base e size v n xs) {k : Nat} (hk : v.ownBlock = some k) : ∃ cs, Blk w k e cs := by
 rcases h.2 with ⟨rfl, _⟩ | ⟨g, cap, cur, rfl, hb, hh, _⟩
 ·simp [Value.ownBlock] at hk
 ·have : g = k := by simpa [Value.ownBlock] using hk
  subst this
  exact ⟨cur, hh⟩
theorem BldU.other {w w' : World} {X : Nat → Prop} {base gb gm : Nat} {c0 c1 c4 c5 c6 vl : Value} {l : List Nat} (h : BldU w base gb gm c0 c1 c4 c5 c6 vl l) (hk : Kept w w' X) (hX : ∀ k, X k → ∃ t cs, Blk w k t cs ∧ t ≠ 100 ∧ 92 ≠ t) : BldU w' base gb gm c0 c1 c4 c5 c6 vl l := by
 have hn : ∀ k, X k → ¬ (k = gb ∨ k = gm ∨ vl.ownBlock = some k) := fun k hx => by
  obtain ⟨t, cs, hb, h1, h2⟩ := hX k hx
  exact h.not hb h1 h2
 exact ⟨h.blk.kept hk fun hx => hn _ hx (.inl rfl), h.map.kept hk fun hx => hn _ hx (.inr (.inl rfl)), hk.ownsRow h.row fun g hg hx => hn _ hx (.inr (.inr hg))⟩
theorem BWU.table {wb w w' : World} {X : Nat → Prop} {gb gm gM L : Nat} {c1 cap4 cap5 cap6 vl vleaf vbr vbr' : Value} {l lf : List Nat} {t t' : List (List (List Nat))} (h : BWU wb w gb gm gM L c1 cap4 cap5 cap6 vl vleaf vbr l lf t) (hk : Kept w w' X)
  (hX : ∀ k, X k → wb.heap.size ≤ k ∧ ∃ t cs, Blk w k t cs ∧ t ≠ 100 ∧ 92 ≠ t ∧ t ≠ 3) (hm : Blk w' gM 79 #[.int .i64 L, .slice none 0 0, vleaf, vbr']) (ht : Tab w' wb.heap.size vbr' t') : BWU wb w' gb gm gM L c1 cap4 cap5 cap6 vl vleaf vbr' l lf t' :=
 ⟨h.kept.trans hk fun b hb hx => by have := (hX b hx).1; omega,
  h.bld.other hk fun k hx => by
   obtain ⟨_, t, cs, hb, h1, h2, _⟩ := hX k hx
   exact ⟨t, cs, hb, h1, h2⟩,
  hm, own_ty hk h.lfs fun g cs hx hb => by
   obtain ⟨_, t, cs', hb', _, _, h3⟩ := hX g hx
   exact hb'.ne_ hb h3 rfl, ht, h.gm_, h.gM_⟩
theorem upd_self (f : Nat → Nat) (i j : Nat) : upd f i j i = j := by simp [upd]
theorem TabOK.set {S : Type} {L : Nat} {br : Nat → S → S → S} {l : List S} {cnt : Nat → Nat} {t : List (List (List Nat))} {i j : Nat} {r : List (List Nat)} {row : List Nat} (h : TabOK L br l (upd cnt i j) t) (hr : t[i]? = some r) (hl : row.length = L) (hrow : RowOK br l i j row) : TabOK L br l (upd cnt i (j + 1)) (t.set i (r ++ [row])) := by
 have hi := lt_of_get hr
 obtain ⟨h1, h2⟩ := h i r hr
 rw [upd_self] at h1
 intro k q hq
 by_cases hk : k = i
 ·subst hk
  rw [List.getElem?_set_self hi] at hq
  injection hq with hq
  subst hq
  refine ⟨by rw [upd_self]; simp [h1], fun j' row' hj => ?_⟩
  by_cases hj' : j' < r.length
  ·rw [List.getElem?_append_left hj'] at hj
   exact h2 j' row' hj
  ·have h3 := lt_of_get hj
   simp at h3
   obtain rfl : j' = r.length := by omega
   simp at hj
   subst hj h1
   exact ⟨hl, hrow⟩
 ·rw [List.getElem?_set_ne (fun e => hk e.symm)] at hq
  have := h k q hq
  simpa [upd, hk] using this
theorem own_cell {w : World} {base n g cap k : Nat} {e : TypeId} {xs : List Value} {u : Value} (h : w.ownsRow base e 1 (.slice (some ⟨g, 0, none⟩) n cap) n xs) (hk : xs[k]? = some u) : w.cell? ⟨g, k, none⟩ = some u := by
 obtain ⟨g', cap', he, hc⟩ := own_get h hk
 injection he with hg _ _
 injection hg with hg
 injection hg with hg
 subst hg
 exact hc
theorem own_frozen {w : World} {base n g cap size : Nat} {e : TypeId} {xs : List Value} (h : w.ownsRow base e size (.slice (some ⟨g, 0, none⟩) n cap) n xs) (k : Nat) : w.frozen? ⟨g, k, none⟩ = false := by
 rcases h.2 with ⟨hv, _⟩ | ⟨g', cap', cur, hv, hb, hh, _⟩
 ·cases hv
 ·injection hv with hg _ _
  injection hg with hg
  injection hg with hg
  subst hg
  exact Blk.frozen (t := e) hh k
theorem fillC_full {w : World} {base g L : Nat} {row : List Nat} (h : Blk w g 3 (fillC L row)) (hl : row.length = L) (hb : base ≤ g) (hL : L ≤ 8) : IntRow w base (.slice (some ⟨g, 0, none⟩) L L) row := by
 have h1 := own_of_blk (n := L) h hb (by simp [fillC]; omega) (by omega)
 have h2 : (fillC L row).toList = row.map encN := by simp [fillC, hl]
 rw [h2] at h1
 unfold IntRow
 rw [hl]
 exact h1
theorem info22 : (Tryd.prog.info? 24).map (fun i => (i.zero, i.size, i.bytes)) = some (some (.slice none 0 0), 1, 24) := by kernel_rfl
theorem row104 : RowTy Tryd.prog 81 24 1 := rowTy_of Tryd.underlying81 info22 rfl (by omega) (by omega)
theorem bld_rows {wb : World} {gb gm gM L i j0 : Nat} {c1 cap4 cap5 cap6 : Value} {leaf : Nat → Nat} {br : Nat → Nat → Nat → Nat} {acc : Nat → Bool} {P : Nat → Prop} (hC : ClosU wb gb L cap4 cap5 cap6 leaf br acc P)
  {l0 : List Nat} (hl0 : l0.length ≤ 64) (hL : L ≤ 8) (hi : i < l0.length) (hj0 : j0 ≤ l0.length)
  {w : World} {vl vleaf vbr : Value} {l lf : List Nat} {t : List (List (List Nat))} (hB : BWU wb w gb gm gM L c1 cap4 cap5 cap6 vl vleaf vbr l lf t) (hM : Mid L br l0 l) (hP : ∀ s ∈ l, P s)
  {cnt : Nat → Nat} (hc : cnt i = j0) (hit : i < t.length) (hT : TabOK L br l cnt t)
  {u1 u2 u4 u5 u6 u7 u11 u12 u13 u14 u15 u16 u17 u18 u19 u20 u21 u22 u23 u24 u25 u26 u27 u28 u29 u30 u31 u32 u33 u34 u35 u36 u37 u38 u39 u40 u41 u42 u43 u44 u45 u46 u47 u48 u49 u50 u51 u52 u53 u54 u55 u56 u57 u58 u59 u60 u61 u62 u63 u64 u65 u66 u67 u68 u69 u70 u71 u72 u73 u74 u75 u76 u77 u78 u79 u80 u81 u82 u83 u84 u85 u86 u87 u88 u89 u90 u91 u92 u93 u94 u95 u96 u97 u98 u99 u100 u101 u102 u103 u104 u105 u106 u107 u108 u109 u110 u111 u112 u113 u114 u115 u116 u117 u118 u119 u120 u121 u122 u123 u124 u125 u126 u127 u128 u129 u130 u131 u132 u133 u134 u135 u136 u137 u138 u139 u140 u141 u142 u143 u144 u145 u146 u147 u148 u149 u150 u151 u152 u153 u154 u155 u156 u157 u158 u159 u160 u161 u162 u163 u164 u165 u166 u167 u168 u169 u170 u171 u172 u173 u174 u175 u176 u177 u178 u179 u180 u181 u182 u183 u184 u185 u186 u187 u188 u189 u190 u191 u192 u193 u194 u195 u196 : Value}
  {Q : Exit → Act → World → Prop} (hN : Reg.NoQ Q)
  (hQ : ∀ (x10 x11 x12 x110 x111 x112 x113 x114 x115 x116 x117 x118 x119 x120 x121 x122 x123 x124 x125 x126 x127 x128 x129 x130 x131 x132 x133 x134 x135 x136 x137 x138 x139 x140 x141 x142 x143 x144 x145 x146 x147 x148 x149 x150 x151 x152 x153 x154 x155 x156 x157 x158 x159 x160 x161 x162 x163 x164 x165 x166 : Value) (w' : World) (vl' : Value) (l' : List Nat) (t' : List (List (List Nat))), BWU wb w' gb gm gM L c1 cap4 cap5 cap6 vl' vleaf vbr l' lf t' → Mid L br l0 l' → l <+: l' → (∀ s ∈ l', P s) →
   TabOK L br l' (upd cnt i l0.length) t' → t'.length = t.length →
   Q (.exit 6) ⟨List.toArray ((.pointer (some ⟨gb, 0, none⟩)) :: u1 :: u2 :: (.pointer (some ⟨gM, 0, none⟩)) :: u4 :: u5 :: u6 :: u7 :: (.int .i64 l0.length) :: (.int .i64 i) :: x10 :: x11 :: x12 :: u13 :: u14 :: u15 :: u16 :: u17 :: u18 :: u19 :: u20 :: u21 :: u22 :: u23 :: u24 :: u25 ::
   u26 :: u27 :: u28 :: u29 :: u30 :: u31 :: u32 :: u33 :: u34 :: u35 :: u36 :: u37 :: u38 :: u39 :: u40 :: u41 :: u42 :: u43 :: u44 :: u45 :: u46 :: u47 :: u48 :: u49 :: u50 :: u51 :: u52 :: u53 :: u54 :: u55 :: u56 :: u57 :: u58 :: u59 :: u60 :: u61 :: u62 ::
   u63 :: u64 :: u65 :: u66 :: u67 :: u68 :: u69 :: u70 :: u71 :: u72 :: u73 :: u74 :: u75 :: u76 :: u77 :: u78 :: u79 :: u80 :: u81 :: u82 :: u83 :: u84 :: u85 :: u86 :: u87 :: u88 :: u89 :: u90 :: u91 :: u92 :: u93 :: u94 :: u95 :: u96 :: u97 :: u98 :: u99 ::
   u100 :: u101 :: u102 :: u103 :: u104 :: u105 :: u106 :: u107 :: u108 :: u109 :: x110 :: x111 :: x112 :: x113 :: x114 :: x115 :: x116 :: x117 :: x118 :: x119 :: x120 :: x121 :: x122 :: x123 :: x124 :: x125 :: x126 :: x127 :: x128 :: x129 :: x130 :: x131 :: x132 ::
   x133 :: x134 :: x135 :: x136 :: x137 :: x138 :: x139 :: x140 :: x141 :: x142 :: x143 :: x144 :: x145 :: x146 :: x147 :: x148 :: x149 :: x150 :: x151 :: x152 :: x153 :: x154 :: x155 :: x156 :: x157 :: x158 :: x159 :: x160 :: x161 :: x162 :: x163 :: x164 :: x165 ::
   x166 :: u167 :: u168 :: u169 :: u170 :: u171 :: u172 :: u173 :: u174 :: u175 :: u176 :: u177 :: u178 :: u179 :: u180 :: u181 :: u182 :: u183 :: u184 :: u185 :: u186 :: u187 :: u188 :: u189 :: u190 :: u191 :: u192 :: u193 :: u194 :: u195 :: u196 :: []), []⟩ w') :
  (Code.loop (loopBody Tryd.f53 3)).wp Tryd.prog Q ⟨List.toArray ((.pointer (some ⟨gb, 0, none⟩)) :: u1 :: u2 :: (.pointer (some ⟨gM, 0, none⟩)) :: u4 :: u5 :: u6 :: u7 :: (.int .i64 l0.length) :: (.int .i64 i) :: (.int .i64 j0) :: u11 :: u12 :: u13 :: u14 :: u15 :: u16 :: u17 :: u18 :: u19 :: u20 :: u21 :: u22 :: u23 :: u24 ::
   u25 :: u26 :: u27 :: u28 :: u29 :: u30 :: u31 :: u32 :: u33 :: u34 :: u35 :: u36 :: u37 :: u38 :: u39 :: u40 :: u41 :: u42 :: u43 :: u44 :: u45 :: u46 :: u47 :: u48 :: u49 :: u50 :: u51 :: u52 :: u53 :: u54 :: u55 :: u56 :: u57 :: u58 :: u59 :: u60 :: u61 ::
   u62 :: u63 :: u64 :: u65 :: u66 :: u67 :: u68 :: u69 :: u70 :: u71 :: u72 :: u73 :: u74 :: u75 :: u76 :: u77 :: u78 :: u79 :: u80 :: u81 :: u82 :: u83 :: u84 :: u85 :: u86 :: u87 :: u88 :: u89 :: u90 :: u91 :: u92 :: u93 :: u94 :: u95 :: u96 :: u97 :: u98 ::
   u99 :: u100 :: u101 :: u102 :: u103 :: u104 :: u105 :: u106 :: u107 :: u108 :: u109 :: u110 :: u111 :: u112 :: u113 :: u114 :: u115 :: u116 :: u117 :: u118 :: u119 :: u120 :: u121 :: u122 :: u123 :: u124 :: u125 :: u126 :: u127 :: u128 :: u129 :: u130 :: u131 ::
   u132 :: u133 :: u134 :: u135 :: u136 :: u137 :: u138 :: u139 :: u140 :: u141 :: u142 :: u143 :: u144 :: u145 :: u146 :: u147 :: u148 :: u149 :: u150 :: u151 :: u152 :: u153 :: u154 :: u155 :: u156 :: u157 :: u158 :: u159 :: u160 :: u161 :: u162 :: u163 :: u164 ::
   u165 :: u166 :: u167 :: u168 :: u169 :: u170 :: u171 :: u172 :: u173 :: u174 :: u175 :: u176 :: u177 :: u178 :: u179 :: u180 :: u181 :: u182 :: u183 :: u184 :: u185 :: u186 :: u187 :: u188 :: u189 :: u190 :: u191 :: u192 :: u193 :: u194 :: u195 :: u196 :: []), []⟩ w := by
 conv => arg 2; arg 1; whnf
 go_loopw [10] (fun jj wr => ∃ (j : Nat) (l' : List Nat) (vl' : Value) (t' : List (List (List Nat))), jj = .int .i64 (j : Int) ∧ j ≤ l0.length ∧ BWU wb wr gb gm gM L c1 cap4 cap5 cap6 vl' vleaf vbr l' lf t' ∧ Mid L br l0 l' ∧ l <+: l' ∧ (∀ s ∈ l', P s) ∧
  TabOK L br l' (upd cnt i j) t' ∧ t'.length = t.length) (fun jj _ => l0.length - (intOf jj).toNat)
 case atStart =>
  refine ⟨j0, l, vl, t, rfl, hj0, hB, hM, List.prefix_refl _, hP, ?_, rfl⟩
  have e : upd cnt i j0 = cnt := by funext k; unfold upd; split <;> simp_all
  rw [e]; exact hT
 case round =>
  obtain ⟨j, l', vl', t', rfl, hj, hB', hM', hpre, hP', hT', htl⟩ := hrel
  have hcb := hB'.bld.blk.cell
  have hM2 := hide hM'
  have hPP := hide hP'
  have hpp := hide hpre
  have hTT := hide hT'
  have hTL := hide htl
  obtain ⟨gr, w1, hmk, hR, hb1, hgr⟩ := mk_row wr L (by omega)
  rw [← fillC_nil] at hR
  have hwb := hB'.kept.size
  have hK1 := hB'.kept.trans (Kept.of_below hb1 fun k => k = gb) fun _ _ h => h
  have hB1 := hB'.bld.below hb1
  have hHi := hide hi
  clear hM' hP' hpre hM hP hT hT' htl
  go_wp2_with fail
  ·refine bld_fill hC hl0 hL (List.getElem?_eq_getElem (by omega : i < l0.length)) (List.getElem?_eq_getElem (by omega : j < l0.length)) hK1 hB1 hM2.out hPP.out hR (by omega) hB'.gm_ ?_ ?_
   ·repeat (first | exact hN | refine Reg.NoQ.then ?_ | refine Reg.NoQ.inBlock ?_)
   ·iterate 30 (intro _)
    intro w2 vl2 l2 row hB2 hM3 hpre2 hP2 hrl hrow hR2 hk2 hmv2
    have hks : Kept wr w2 (fun k => k = gb ∨ k = gm ∨ vl'.ownBlock = some k) := (Kept.of_below hb1 _).trans hk2 (by
     rintro b hb (h1 | h1 | h1 | h1)
     ·exact .inl h1
     ·exact .inr (.inl h1)
     ·omega
     ·exact .inr (.inr h1))
    have hB3 := hB'.list hks hB2
    obtain ⟨us, hu⟩ := hB3.tab.open
    have hil : i < t'.length := by rw [hTL.out]; exact hit
    have hul := hu.len
    obtain ⟨r, hri⟩ : ∃ r, t'[i]? = some r := ⟨_, List.getElem?_eq_getElem hil⟩
    obtain ⟨ui, hui⟩ : ∃ ui, us[i]? = some ui := ⟨_, List.getElem?_eq_getElem (by omega)⟩
    obtain ⟨uis, hr1, hr2, hr3⟩ := hu.row i ui r hui hri
    obtain ⟨gv, cap, rfl, hci⟩ := own_get hu.own hui
    obtain ⟨Ai, ci, rfl⟩ := slice_of_own hr2
    have hcm := hB3.mach.cell
    have hMM := hide hM3
    have hPP2 := hide hP2
    have hpp2 := hide hpre2
    have hrr := hide hrow
    have hrl64 : r.length ≤ 64 := by have := (hTT.out i r hri).1; simp [upd] at this; omega
    have hwb2 := hB3.kept.size
    have hHri := hide hri
    have hHui := hide hui
    have hHrl := hide hrl
    have hHul := hide hul
    have hHr1 := hide hr1
    clear hM3 hP2 hpre2 hrow hri hui hrl hul hr1 hcb hmk
    go_wp2_with fail
    refine Reg.region_cut [0, 1, 3, 7, 0, 0, 32, 96, 224, 0, 992, 2016, 0, 4096, 16352, 32767, 65535] [0, 1, 2, 3, 4, 5, 6, 7, 8, 9, 10, 11, 12, 13, 14, 15, 16] (by kernel_rfl) (by repeat (first | exact hN | refine Reg.NoQ.then ?_ | refine Reg.NoQ.inBlock ?_)) ?_
    refine Reg.rest_walk' [0, 1, 2, 3, 4, 5, 6, 7, 8, 9, 10, 11, 12, 13] [14, 15, 16] rfl (by kernel_rfl) ?_
    intro Qf hQf
    go_wp2_with fail
    rw [List.filterMap_nil]
    go_wp2_with fail
    refine Reg.rest_act' 14 [15, 16] [3] rfl (by kernel_rfl) ?_
    intro Qf hQf
    simp only [gT, gS, gZ]
    refine wpList_app_new (w := w2.drew) row104 rfl _ _ rfl wb.heap.size (.slice Ai r.length ci) r.length uis rfl hr2 [.slice (some ⟨gr, 0, none⟩) L L] 1 rfl rfl (by simp [Value.oneCell']) (by omega) hwb2 ?_
    intro g cap' w3 hown hk3 hmv3 hg3
    have hk4 : Kept w2 w3 (fun k => (Value.slice Ai r.length ci).ownBlock = some k) := ⟨hk3.os, hk3.tape, hk3.output, hk3.size, hk3.block⟩
    clear hk3
    have hu4 : TabU (w3.setCell ⟨gv, i, none⟩ (.slice (some ⟨g, 0, none⟩) (r.length + 1) cap')) wb.heap.size (.slice (some ⟨gv, 0, none⟩) t'.length cap) (us.set i (.slice (some ⟨g, 0, none⟩) (r.length + 1) cap')) (t'.set i (r ++ [row])) :=
     hu.add rfl hHui.out hHri.out hHr1.out hr2 hr3 (fillC_full hR2 hHrl.out (by omega) hL) hk4 hown hmv3
    have hm1 : Blk ((w2.alloc (.cells #[.slice (some ⟨gr, 0, none⟩) L L] 24)).drew) gM 79 _ := hB3.mach.kept ((Kept.refl w2 (fun _ => False)).alloc _).drew id
    have hm3 : Blk w3 gM 79 _ := hB3.mach.kept hk4 (fun e => own_blk_ne hr2 hB3.mach (by decide) e)
    have hv3 := own_ty hk4 hu.own (not_blk hr2 (by decide))
    have hcv := own_cell hv3 hHui.out
    have hfv := own_frozen hv3 i
    refine hQf _ _ ⟨?_, ?_⟩
    ·intro z hz q hq
     simp only [List.mem_singleton] at hz
     subst hz
     injection hq with hq
     subst hq
     exact Reg.same_load1 rfl rfl (hm1.cell 3) (hm3.cell 3) Tryd.underlying77 rfl
    ·refine Reg.rest_walk' [15, 16] [] rfl (by kernel_rfl) ?_
     clear hQf
     intro Qf hQf
     go_wp2_with fail
     rw [List.filterMap_nil]
     go_wp2_with fail
     refine Reg.rest_end ?_
     go_wp2_with fail
     have hX : ∀ k, ((Value.slice Ai r.length ci).ownBlock = some k ∨ k = gv) → wb.heap.size ≤ k ∧ ∃ t cs, Blk w2 k t cs ∧ t ≠ 100 ∧ 92 ≠ t ∧ t ≠ 3 := by
      rintro k (hk | rfl)
      ·obtain ⟨cs, hb⟩ := own_blk hr2 hk
       exact ⟨own_base hr2 hk, 24, cs, hb, by decide, by decide, by decide⟩
      ·obtain ⟨cs, hb⟩ := own_blk hu.own (k := k) rfl
       exact ⟨own_base hu.own (k := k) rfl, 81, cs, hb, by decide, by decide, by decide⟩
     have hk5 : Kept w2 (w3.setCell ⟨gv, i, none⟩ (.slice (some ⟨g, 0, none⟩) (r.length + 1) cap')) (fun k => (Value.slice Ai r.length ci).ownBlock = some k ∨ k = gv) := (hk4.mono fun _ _ h => .inl h).setCell (fun _ => .inr rfl) _
     have hm5 := hm3.kept ((Kept.refl w3 (fun k => k = gv)).setCell (p := ⟨gv, i, none⟩) (fun _ => rfl) (.slice (some ⟨g, 0, none⟩) (r.length + 1) cap')) (fun e => own_blk_ne hv3 hm3 (by decide) (by rw [e]; rfl))
     refine ⟨⟨j + 1, l2, vl2, t'.set i (r ++ [row]), by simp, by omega, hB3.table hk5 hX hm5 hu4.close, hMM.out, hpp.out.trans hpp2.out, hPP2.out, ?_, by simp [hTL.out]⟩, by simp [intOf]; omega⟩
     exact (hTT.out.grow hpp2.out).set hHri.out hHrl.out hrr.out
  ·have e : j = l0.length := by omega
   subst e
   exact hQ _ _ _ _ _ _ _ _ _ _ _ _ _ _ _ _ _ _ _ _ _ _ _ _ _ _ _ _ _ _ _ _ _ _ _ _ _ _ _ _ _ _ _ _ _ _ _ _ _ _ _ _ _ _ _ _ _ _ _ _ wr vl' l' t' hB' hM2.out hpp.out hPP.out hTT.out hTL.out
end Go.Proofs.YtbjdgepfhhafjaaDoor
namespace Go.Proofs.YtbjdgepfhhafjaaDoor
open Go.RowKit
theorem info104 : (Tryd.prog.info? 81).map (fun i => (i.zero, i.size, i.bytes)) = some (some (.slice none 0 0), 1, 24) := by kernel_rfl
theorem row80 : RowTy Tryd.prog 77 81 1 := rowTy_of Tryd.underlying77 info104 rfl (by omega) (by omega)
def lcnt (n n0 i : Nat) : Nat → Nat := fun k => if k < i then n else n0
theorem TabOK.congr {S : Type} {L : Nat} {br : Nat → S → S → S} {l : List S} {c c' : Nat → Nat} {t : List (List (List Nat))} (h : TabOK L br l c t) (hc : ∀ k, k < t.length → c k = c' k) : TabOK L br l c' t := fun i r hr =>
 ⟨(h i r hr).1.trans (hc i (lt_of_get hr)), (h i r hr).2⟩
theorem TabOK.push {S : Type} {L : Nat} {br : Nat → S → S → S} {l : List S} {c : Nat → Nat} {t : List (List (List Nat))} (h : TabOK L br l c t) : TabOK L br l (upd c t.length 0) (t ++ [[]]) := by
 intro k q hq
 by_cases hk : k < t.length
 ·rw [List.getElem?_append_left hk] at hq
  have := h k q hq
  have hk2 : k ≠ t.length := by omega
  simpa [upd, hk2] using this
 ·have h3 := lt_of_get hq
  simp at h3
  obtain rfl : k = t.length := by omega
  simp at hq
  subst hq
  exact ⟨by simp [upd], fun j row hj => by simp at hj⟩
theorem bld_lines {wb : World} {gb gm gM L n0 : Nat} {c1 cap4 cap5 cap6 : Value} {leaf : Nat → Nat} {br : Nat → Nat → Nat → Nat} {acc : Nat → Bool} {P : Nat → Prop} (hC : ClosU wb gb L cap4 cap5 cap6 leaf br acc P)
  {l0 : List Nat} (hl0 : l0.length ≤ 64) (hL : L ≤ 8) (hn0 : n0 ≤ l0.length)
  {w : World} {vl vleaf vbr : Value} {l lf : List Nat} {t : List (List (List Nat))} (hB : BWU wb w gb gm gM L c1 cap4 cap5 cap6 vl vleaf vbr l lf t) (hM : Mid L br l0 l) (hP : ∀ s ∈ l, P s)
  (htl : t.length = n0) (hT : TabOK L br l (fun _ => n0) t)
  {u1 u2 u4 u5 u6 u7 u9 u10 u11 u12 u13 u14 u15 u16 u17 u18 u19 u20 u21 u22 u23 u24 u25 u26 u27 u28 u29 u30 u31 u32 u33 u34 u35 u36 u37 u38 u39 u40 u41 u42 u43 u44 u45 u46 u47 u48 u49 u50 u51 u52 u53 u54 u55 u56 u57 u58 u59 u60 u61 u62 u63 u64 u65 u66 u67 u68 u69 u70 u71 u72 u73 u74 u75 u76 u77 u78 u79 u80 u81 u84 u85 u86 u87 u88 u89 u90 u91 u92 u93 u94 u95 u96 u97 u98 u99 u100 u101 u102 u103 u104 u105 u106 u107 u108 u109 u110 u111 u112 u113 u114 u115 u116 u117 u118 u119 u120 u121 u122 u123 u124 u125 u126 u127 u128 u129 u130 u131 u132 u133 u134 u135 u136 u137 u138 u139 u140 u141 u142 u143 u144 u145 u146 u147 u148 u149 u150 u151 u152 u153 u154 u155 u156 u157 u158 u159 u160 u161 u162 u163 u164 u165 u166 u167 u168 u169 u170 u171 u172 u173 u174 u175 u176 u177 u178 u179 u180 u181 u182 u183 u184 u185 u186 u187 u188 u189 u190 u191 u192 u193 u194 u195 u196 : Value}
  {Q : Exit → Act → World → Prop} (hN : Reg.NoQ Q)
  (hQ : ∀ (x9 x10 x11 x12 x83 x84 x85 x86 x87 x88 x89 x90 x91 x92 x93 x94 x95 x96 x97 x98 x99 x100 x101 x102 x103 x104 x105 x106 x107 x108 x109 x110 x111 x112 x113 x114 x115 x116 x117 x118 x119 x120 x121 x122 x123 x124 x125 x126 x127 x128 x129 x130 x131 x132 x133 x134 x135 x136 x137 x138 x139 x140 x141 x142 x143 x144 x145 x146 x147 x148 x149 x150 x151 x152 x153 x154 x155 x156 x157 x158 x159 x160 x161 x162 x163 x164 x165 x166 x167 : Value) (w' : World) (vl' vbr' : Value) (l' : List Nat) (t' : List (List (List Nat))), BWU wb w' gb gm gM L c1 cap4 cap5 cap6 vl' vleaf vbr' l' lf t' → Mid L br l0 l' → l <+: l' → (∀ s ∈ l', P s) →
   TabOK L br l' (fun _ => l0.length) t' → t'.length = l0.length →
   Q (.exit 4) ⟨List.toArray ((.pointer (some ⟨gb, 0, none⟩)) :: u1 :: u2 :: (.pointer (some ⟨gM, 0, none⟩)) :: u4 :: u5 :: u6 :: u7 :: (.int .i64 l0.length) :: x9 :: x10 :: x11 :: x12 :: u13 :: u14 :: u15 :: u16 :: u17 :: u18 :: u19 :: u20 :: u21 :: u22 :: u23 :: u24 :: u25 :: u26 :: u27 ::
   u28 :: u29 :: u30 :: u31 :: u32 :: u33 :: u34 :: u35 :: u36 :: u37 :: u38 :: u39 :: u40 :: u41 :: u42 :: u43 :: u44 :: u45 :: u46 :: u47 :: u48 :: u49 :: u50 :: u51 :: u52 :: u53 :: u54 :: u55 :: u56 :: u57 :: u58 :: u59 :: u60 :: u61 :: u62 :: u63 :: u64 ::
   u65 :: u66 :: u67 :: u68 :: u69 :: u70 :: u71 :: u72 :: u73 :: u74 :: u75 :: u76 :: u77 :: u78 :: u79 :: u80 :: u81 :: (.int .i64 l0.length) :: x83 :: x84 :: x85 :: x86 :: x87 :: x88 :: x89 :: x90 :: x91 :: x92 :: x93 :: x94 :: x95 :: x96 :: x97 :: x98 :: x99 ::
   x100 :: x101 :: x102 :: x103 :: x104 :: x105 :: x106 :: x107 :: x108 :: x109 :: x110 :: x111 :: x112 :: x113 :: x114 :: x115 :: x116 :: x117 :: x118 :: x119 :: x120 :: x121 :: x122 :: x123 :: x124 :: x125 :: x126 :: x127 :: x128 :: x129 :: x130 :: x131 :: x132 ::
   x133 :: x134 :: x135 :: x136 :: x137 :: x138 :: x139 :: x140 :: x141 :: x142 :: x143 :: x144 :: x145 :: x146 :: x147 :: x148 :: x149 :: x150 :: x151 :: x152 :: x153 :: x154 :: x155 :: x156 :: x157 :: x158 :: x159 :: x160 :: x161 :: x162 :: x163 :: x164 :: x165 ::
   x166 :: x167 :: u168 :: u169 :: u170 :: u171 :: u172 :: u173 :: u174 :: u175 :: u176 :: u177 :: u178 :: u179 :: u180 :: u181 :: u182 :: u183 :: u184 :: u185 :: u186 :: u187 :: u188 :: u189 :: u190 :: u191 :: u192 :: u193 :: u194 :: u195 :: u196 :: []), []⟩ w') :
  (Code.loop (loopBody Tryd.f53 2)).wp Tryd.prog Q ⟨List.toArray ((.pointer (some ⟨gb, 0, none⟩)) :: u1 :: u2 :: (.pointer (some ⟨gM, 0, none⟩)) :: u4 :: u5 :: u6 :: u7 :: (.int .i64 l0.length) :: u9 :: u10 :: u11 :: u12 :: u13 :: u14 :: u15 :: u16 :: u17 :: u18 :: u19 :: u20 :: u21 :: u22 :: u23 :: u24 :: u25 :: u26 :: u27 ::
   u28 :: u29 :: u30 :: u31 :: u32 :: u33 :: u34 :: u35 :: u36 :: u37 :: u38 :: u39 :: u40 :: u41 :: u42 :: u43 :: u44 :: u45 :: u46 :: u47 :: u48 :: u49 :: u50 :: u51 :: u52 :: u53 :: u54 :: u55 :: u56 :: u57 :: u58 :: u59 :: u60 :: u61 :: u62 :: u63 :: u64 ::
   u65 :: u66 :: u67 :: u68 :: u69 :: u70 :: u71 :: u72 :: u73 :: u74 :: u75 :: u76 :: u77 :: u78 :: u79 :: u80 :: u81 :: (.int .i64 l0.length) :: (.int .i64 0) :: u84 :: u85 :: u86 :: u87 :: u88 :: u89 :: u90 :: u91 :: u92 :: u93 :: u94 :: u95 :: u96 :: u97 ::
   u98 :: u99 :: u100 :: u101 :: u102 :: u103 :: u104 :: u105 :: u106 :: u107 :: u108 :: u109 :: u110 :: u111 :: u112 :: u113 :: u114 :: u115 :: u116 :: u117 :: u118 :: u119 :: u120 :: u121 :: u122 :: u123 :: u124 :: u125 :: u126 :: u127 :: u128 :: u129 :: u130 ::
   u131 :: u132 :: u133 :: u134 :: u135 :: u136 :: u137 :: u138 :: u139 :: u140 :: u141 :: u142 :: u143 :: u144 :: u145 :: u146 :: u147 :: u148 :: u149 :: u150 :: u151 :: u152 :: u153 :: u154 :: u155 :: u156 :: u157 :: u158 :: u159 :: u160 :: u161 :: u162 :: u163 ::
   u164 :: u165 :: u166 :: u167 :: u168 :: u169 :: u170 :: u171 :: u172 :: u173 :: u174 :: u175 :: u176 :: u177 :: u178 :: u179 :: u180 :: u181 :: u182 :: u183 :: u184 :: u185 :: u186 :: u187 :: u188 :: u189 :: u190 :: u191 :: u192 :: u193 :: u194 :: u195 :: u196 ::
   []), []⟩ w := by
 conv => arg 2; arg 1; whnf
 go_loopw [83] (fun ii wr => ∃ (i : Nat) (l' : List Nat) (vl' vbr' : Value) (t' : List (List (List Nat))), ii = .int .i64 (i : Int) ∧ i ≤ l0.length ∧ BWU wb wr gb gm gM L c1 cap4 cap5 cap6 vl' vleaf vbr' l' lf t' ∧ Mid L br l0 l' ∧ l <+: l' ∧ (∀ s ∈ l', P s) ∧
  TabOK L br l' (lcnt l0.length n0 i) t' ∧ t'.length = max n0 i) (fun ii _ => l0.length - (intOf ii).toNat)
 case atStart => exact ⟨0, l, vl, vbr, t, rfl, Nat.zero_le _, hB, hM, List.prefix_refl _, hP, hT.congr (fun k _ => by simp [lcnt]), by omega⟩
 case round =>
  obtain ⟨i, l', vl', vbr', t', rfl, hi, hB', hM', hpre, hP', hT', htl'⟩ := hrel
  obtain ⟨us, hu⟩ := hB'.tab.open
  obtain ⟨A, c, rfl⟩ := slice_of_own hu.own
  have hcm := hB'.mach.cell
  have hM2 := hide hM'
  have hPP := hide hP'
  have hpp := hide hpre
  have hTT := hide hT'
  have hTL := hide htl'
  clear hM' hP' hpre hM hP hT hT' htl'
  have hwb := hB'.kept.size
  by_cases hlt : i < t'.length
  ·have hul := hu.len
   obtain ⟨r, hri⟩ : ∃ r, t'[i]? = some r := ⟨_, List.getElem?_eq_getElem hlt⟩
   obtain ⟨ui, hui⟩ : ∃ ui, us[i]? = some ui := ⟨_, List.getElem?_eq_getElem (by omega)⟩
   obtain ⟨uis, hr1, hr2, hr3⟩ := hu.row i ui r hui hri
   obtain ⟨gv, cap, hvb, hci⟩ := own_get hu.own hui
   injection hvb with e1 e2 e3
   subst e1 e3
   obtain ⟨Ai, ci, rfl⟩ := slice_of_own hr2
   have hrn : r.length = lcnt l0.length n0 i i := (hTT.out i r hri).1
   have hrl : r.length ≤ l0.length := by rw [hrn]; unfold lcnt; split <;> omega
   have hHrn := hide hrn
   have hHri := hide hri
   clear hui hr1 hri hrn hul e2
   go_wp2_with fail
   ·refine bld_rows hC hl0 hL (by omega) hrl hB' hM2.out hPP.out hHrn.out.symm hlt hTT.out ?_ ?_
    ·repeat (first | exact hN | refine Reg.NoQ.then ?_ | refine Reg.NoQ.inBlock ?_)
    ·iterate 60 (intro _)
     intro w2 vl2 l2 t2 hB2 hM3 hpre2 hP2 hT2 htl2
     have hMM := hide hM3
     have hPP2 := hide hP2
     have hpp2 := hide hpre2
     have hTT2 := hide hT2
     have hTL2 := hide htl2
     clear hM3 hP2 hpre2 hT2 htl2
     go_wp2_with fail
     refine ⟨⟨i + 1, l2, vl2, _, t2, by simp, by omega, hB2, hMM.out, hpp.out.trans hpp2.out, hPP2.out, ?_, by rw [hTL2.out]; have := hTL.out; omega⟩, by simp [intOf]; omega⟩
     refine hTT2.out.congr fun k _ => ?_
     simp only [upd, lcnt]
     (repeat' split) <;> omega
   ·have e : i = l0.length := by omega
    subst e
    exact hQ _ _ _ _ _ _ _ _ _ _ _ _ _ _ _ _ _ _ _ _ _ _ _ _ _ _ _ _ _ _ _ _ _ _ _ _ _ _ _ _ _ _ _ _ _ _ _ _ _ _ _ _ _ _ _ _ _ _ _ _ _ _ _ _ _ _ _ _ _ _ _ _ _ _ _ _ _ _ _ _ _ _ _ _ _ _ _ _ _ wr vl' _ l' t' hB' hM2.out hpp.out hPP.out (hTT.out.congr fun k hk => by have := hTL.out; simp [lcnt]; omega) (by have := hTL.out; omega)
  ·have hti : t'.length = i := by have := hTL.out; omega
   subst hti
   go_wp2_with (at_builtin; refine wpList_app_new row80 rfl _ _ rfl wb.heap.size (.slice A t'.length c) t'.length us rfl hu.own [.slice none 0 0] 1 rfl rfl (by simp [Value.oneCell']) (by omega) hwb ?_; intro g cap' w3 hown hk3 hmv3 hg3; have hm3 := hB'.mach.kept hk3 (fun e => own_blk_ne hu.own hB'.mach (by decide) e); have hcm3 := hm3.cell; have hfm3 := hm3.frozen; have hcg : ∀ u, (w3.setCell ⟨gM, 3, none⟩ u).cell? ⟨g, t'.length, none⟩ = some (.slice none 0 0) := fun u => own_cell (own_ty ((Kept.refl w3 (fun k => k = gM)).setCell (p := ⟨gM, 3, none⟩) (fun _ => rfl) u) hown (fun k cs e hb => by subst e; exact hm3.ne_ hb (by decide) rfl)) (by rw [← hu.len]; simp))
   ·have hu3 := hu.push hk3 hown
    have hks := (Kept.refl w3 (fun k => k = gM)).setCell (p := ⟨gM, 3, none⟩) (fun _ => rfl) (.slice (some ⟨g, 0, none⟩) (t'.length + 1) cap')
    have hg82 : ∀ (e : TypeId), e ≠ 79 → ∀ k cs, k = gM → ¬ Blk w3 k e cs := fun e he k cs ek hb => by subst ek; exact hm3.ne_ hb (fun h => he h.symm) rfl
    have hu4 := hu3.keep hks (hg82 3 (by decide)) (hg82 24 (by decide)) (fun k hk ek => hg82 81 (by decide) k _ ek (own_blk hown hk).choose_spec)
    have hX : ∀ k, ((Value.slice A t'.length c).ownBlock = some k ∨ k = gM) → wb.heap.size ≤ k ∧ ∃ t cs, Blk wr k t cs ∧ t ≠ 100 ∧ 92 ≠ t ∧ t ≠ 3 := by
     rintro k (hk | rfl)
     ·obtain ⟨cs, hb⟩ := own_blk hu.own hk
      exact ⟨own_base hu.own hk, 81, cs, hb, by decide, by decide, by decide⟩
     ·exact ⟨hB'.gM_, 79, _, hB'.mach, by decide, by decide, by decide⟩
    have hk5 := (hk3.mono (Y := fun k => (Value.slice A t'.length c).ownBlock = some k ∨ k = gM) fun _ _ h => .inl h).setCell (p := ⟨gM, 3, none⟩) (fun _ => .inr rfl) (.slice (some ⟨g, 0, none⟩) (t'.length + 1) cap')
    have hB4 := hB'.table hk5 hX (hm3.set_ 3 _) hu4.close
    refine bld_rows (j0 := 0) hC hl0 hL (by omega) (Nat.zero_le _) hB4 hM2.out hPP.out (cnt := upd (lcnt l0.length n0 t'.length) t'.length 0) (by simp [upd]) (by simp) hTT.out.push ?_ ?_
    ·repeat (first | exact hN | refine Reg.NoQ.then ?_ | refine Reg.NoQ.inBlock ?_)
    ·iterate 60 (intro _)
     intro w2 vl2 l2 t2 hB2 hM3 hpre2 hP2 hT2 htl2
     have hMM := hide hM3
     have hPP2 := hide hP2
     have hpp2 := hide hpre2
     have hTT2 := hide hT2
     have hTL2 := hide htl2
     clear hM3 hP2 hpre2 hT2 htl2
     go_wp2_with fail
     refine ⟨⟨t'.length + 1, l2, vl2, _, t2, by simp, by omega, hB2, hMM.out, hpp.out.trans hpp2.out, hPP2.out, ?_, by rw [hTL2.out]; have := hTL.out; simp; omega⟩, by simp [intOf]; omega⟩
     refine hTT2.out.congr fun k _ => ?_
     simp only [upd, lcnt]
     (repeat' split) <;> omega
   ·have e : t'.length = l0.length := by omega
    exact hQ _ _ _ _ _ _ _ _ _ _ _ _ _ _ _ _ _ _ _ _ _ _ _ _ _ _ _ _ _ _ _ _ _ _ _ _ _ _ _ _ _ _ _ _ _ _ _ _ _ _ _ _ _ _ _ _ _ _ _ _ _ _ _ _ _ _ _ _ _ _ _ _ _ _ _ _ _ _ _ _ _ _ _ _ _ _ _ _ _ wr vl' _ l' t' hB' hM2.out hpp.out hPP.out (hTT.out.congr fun k hk => by have := hTL.out; simp [lcnt]; omega) e
end Go.Proofs.YtbjdgepfhhafjaaDoor
namespace Go.Proofs.YtbjdgepfhhafjaaDoor
open Go.RowKit
inductive Reach {S : Type} (L : Nat) (leaf : Nat → S) (br : Nat → S → S → S) : S → Prop
 | leaf (x : Nat) : x < L → Reach L leaf br (leaf x)
 | br (x : Nat) (a b : S) : x < L → Reach L leaf br a → Reach L leaf br b → Reach L leaf br (br x a b)
theorem Mid.reach {S : Type} [DecidableEq S] {L : Nat} {leaf : Nat → S} {br : Nat → S → S → S} {l0 l : List S} (h : Mid L br l0 l) (h0 : ∀ s ∈ l0, Reach L leaf br s) : ∀ s ∈ l, Reach L leaf br s := fun s hs => by
 rcases h.from_ s hs with h1 | ⟨x, a, b, hx, ha, hb, rfl⟩
 ·exact h0 s h1
 ·exact .br x a b hx (h0 a ha) (h0 b hb)
theorem BWU.drew {wb w : World} {gb gm gM L : Nat} {c1 cap4 cap5 cap6 vl vleaf vbr : Value} {l lf : List Nat} {t : List (List (List Nat))} (h : BWU wb w gb gm gM L c1 cap4 cap5 cap6 vl vleaf vbr l lf t) : BWU wb w.drew gb gm gM L c1 cap4 cap5 cap6 vl vleaf vbr l lf t :=
 h.below ⟨rfl, rfl, rfl, Nat.le_refl _, fun _ _ => rfl⟩
theorem bld_rounds {wb : World} {gb gm gM L : Nat} {cap4 cap5 cap6 : Value} {leaf : Nat → Nat} {br : Nat → Nat → Nat → Nat} {acc : Nat → Bool} {P : Nat → Prop} (hC : ClosU wb gb L cap4 cap5 cap6 leaf br acc P)
  (hL : L ≤ 8)
  {w : World} {vl vleaf : Value} {l lf : List Nat} (hB : BWU wb w gb gm gM L (.int .i64 64) cap4 cap5 cap6 vl vleaf (.slice none 0 0) l lf []) (hn : l.Nodup) (hR : ∀ s ∈ l, Reach L leaf br s) (hP : ∀ s ∈ l, P s) (hl : l.length ≤ 33000)
  {u1 u2 u4 u5 u7 u8 u9 u10 u11 u12 u13 u14 u15 u16 u17 u18 u19 u20 u21 u22 u23 u24 u25 u26 u27 u28 u29 u30 u31 u32 u33 u34 u35 u36 u37 u38 u39 u40 u41 u42 u43 u44 u45 u46 u47 u48 u49 u50 u51 u52 u53 u54 u55 u56 u57 u58 u59 u60 u61 u62 u63 u64 u65 u66 u67 u68 u69 u70 u71 u72 u73 u74 u75 u76 u77 u78 u79 u80 u81 u82 u83 u84 u85 u86 u87 u88 u89 u90 u91 u92 u93 u94 u95 u96 u97 u98 u99 u100 u101 u102 u103 u104 u105 u106 u107 u108 u109 u110 u111 u112 u113 u114 u115 u116 u117 u118 u119 u120 u121 u122 u123 u124 u125 u126 u127 u128 u129 u130 u131 u132 u133 u134 u135 u136 u137 u138 u139 u140 u141 u142 u143 u144 u145 u146 u147 u148 u149 u150 u151 u152 u153 u154 u155 u156 u157 u158 u159 u160 u161 u162 u163 u164 u165 u166 u167 u168 u169 u170 u171 u172 u173 u174 u175 u176 u177 u178 u179 u180 u181 u182 u183 u184 u185 u186 u187 u188 u189 u190 u191 u192 u193 u194 u195 u196 : Value}
  {Q : Exit → Act → World → Prop} (hN : Reg.NoQ Q)
  (hQ : ∀ (x2 x6 x7 x8 x9 x10 x11 x12 x51 x52 x53 x54 x55 x56 x57 x58 x59 x60 x61 x62 x63 x64 x65 x66 x67 x68 x69 x70 x71 x72 x73 x74 x75 x76 x77 x78 x79 x80 x81 x82 x83 x84 x85 x86 x87 x88 x89 x90 x91 x92 x93 x94 x95 x96 x97 x98 x99 x100 x101 x102 x103 x104 x105 x106 x107 x108 x109 x110 x111 x112 x113 x114 x115 x116 x117 x118 x119 x120 x121 x122 x123 x124 x125 x126 x127 x128 x129 x130 x131 x132 x133 x134 x135 x136 x137 x138 x139 x140 x141 x142 x143 x144 x145 x146 x147 x148 x149 x150 x151 x152 x153 x154 x155 x156 x157 x158 x159 x160 x161 x162 x163 x164 x165 x166 x167 x168 x169 x170 : Value) (w' : World) (vl' vbr' : Value) (l' : List Nat) (t' : List (List (List Nat))), BWU wb w' gb gm gM L (.int .i64 64) cap4 cap5 cap6 vl' vleaf vbr' l' lf t' → l <+: l' → l'.Nodup → (∀ s ∈ l', Reach L leaf br s) → (∀ s ∈ l', P s) →
   TabOK L br l' (fun _ => l'.length) t' → t'.length = l'.length → l'.length ≤ 64 →
   Q (.exit 2) ⟨List.toArray ((.pointer (some ⟨gb, 0, none⟩)) :: u1 :: x2 :: (.pointer (some ⟨gM, 0, none⟩)) :: u4 :: u5 :: x6 :: x7 :: x8 :: x9 :: x10 :: x11 :: x12 :: u13 :: u14 :: u15 :: u16 :: u17 :: u18 :: u19 :: u20 :: u21 :: u22 :: u23 :: u24 :: u25 :: u26 :: u27 :: u28 :: u29 ::
   u30 :: u31 :: u32 :: u33 :: u34 :: u35 :: u36 :: u37 :: u38 :: u39 :: u40 :: u41 :: u42 :: u43 :: u44 :: u45 :: u46 :: u47 :: u48 :: u49 :: u50 :: x51 :: x52 :: x53 :: x54 :: x55 :: x56 :: x57 :: x58 :: x59 :: x60 :: x61 :: x62 :: x63 :: x64 :: x65 :: x66 ::
   x67 :: x68 :: x69 :: x70 :: x71 :: x72 :: x73 :: x74 :: x75 :: x76 :: x77 :: x78 :: x79 :: x80 :: x81 :: x82 :: x83 :: x84 :: x85 :: x86 :: x87 :: x88 :: x89 :: x90 :: x91 :: x92 :: x93 :: x94 :: x95 :: x96 :: x97 :: x98 :: x99 :: x100 :: x101 :: x102 :: x103 ::
   x104 :: x105 :: x106 :: x107 :: x108 :: x109 :: x110 :: x111 :: x112 :: x113 :: x114 :: x115 :: x116 :: x117 :: x118 :: x119 :: x120 :: x121 :: x122 :: x123 :: x124 :: x125 :: x126 :: x127 :: x128 :: x129 :: x130 :: x131 :: x132 :: x133 :: x134 :: x135 :: x136 ::
   x137 :: x138 :: x139 :: x140 :: x141 :: x142 :: x143 :: x144 :: x145 :: x146 :: x147 :: x148 :: x149 :: x150 :: x151 :: x152 :: x153 :: x154 :: x155 :: x156 :: x157 :: x158 :: x159 :: x160 :: x161 :: x162 :: x163 :: x164 :: x165 :: x166 :: x167 :: x168 :: x169 ::
   x170 :: u171 :: u172 :: u173 :: u174 :: u175 :: u176 :: u177 :: u178 :: u179 :: u180 :: u181 :: u182 :: u183 :: u184 :: u185 :: u186 :: u187 :: u188 :: u189 :: u190 :: u191 :: u192 :: u193 :: u194 :: u195 :: u196 :: []), []⟩ w')
  (hQr : ∀ (x6 x7 x8 x9 x10 x11 x12 x51 x52 x53 x54 x55 x56 x57 x58 x59 x60 x61 x62 x63 x64 x65 x66 x67 x68 x69 x70 x71 x72 x73 x74 x75 x76 x77 x78 x79 x80 x81 x82 x83 x84 x85 x86 x87 x88 x89 x90 x91 x92 x93 x94 x95 x96 x97 x98 x99 x100 x101 x102 x103 x104 x105 x106 x107 x108 x109 x110 x111 x112 x113 x114 x115 x116 x117 x118 x119 x120 x121 x122 x123 x124 x125 x126 x127 x128 x129 x130 x131 x132 x133 x134 x135 x136 x137 x138 x139 x140 x141 x142 x143 x144 x145 x146 x147 x148 x149 x150 x151 x152 x153 x154 x155 x156 x157 x158 x159 x160 x161 x162 x163 x164 x165 x166 x167 x168 x169 x170 : Value) (w' : World) (vl' vbr' : Value) (l' : List Nat) (t' : List (List (List Nat))), BWU wb w' gb gm gM L (.int .i64 64) cap4 cap5 cap6 vl' vleaf vbr' l' lf t' → l'.Nodup → (∀ s ∈ l', Reach L leaf br s) → 64 < l'.length →
   Q .ret ⟨List.toArray ((.pointer (some ⟨gb, 0, none⟩)) :: u1 :: (.pointer none) :: (.pointer (some ⟨gM, 0, none⟩)) :: u4 :: u5 :: x6 :: x7 :: x8 :: x9 :: x10 :: x11 :: x12 :: u13 :: u14 :: u15 :: u16 :: u17 :: u18 :: u19 :: u20 :: u21 :: u22 :: u23 :: u24 :: u25 :: u26 :: u27 :: u28 ::
   u29 :: u30 :: u31 :: u32 :: u33 :: u34 :: u35 :: u36 :: u37 :: u38 :: u39 :: u40 :: u41 :: u42 :: u43 :: u44 :: u45 :: u46 :: u47 :: u48 :: u49 :: u50 :: x51 :: x52 :: x53 :: x54 :: x55 :: x56 :: x57 :: x58 :: x59 :: x60 :: x61 :: x62 :: x63 :: x64 :: x65 ::
   x66 :: x67 :: x68 :: x69 :: x70 :: x71 :: x72 :: x73 :: x74 :: x75 :: x76 :: x77 :: x78 :: x79 :: x80 :: x81 :: x82 :: x83 :: x84 :: x85 :: x86 :: x87 :: x88 :: x89 :: x90 :: x91 :: x92 :: x93 :: x94 :: x95 :: x96 :: x97 :: x98 :: x99 :: x100 :: x101 :: x102 ::
   x103 :: x104 :: x105 :: x106 :: x107 :: x108 :: x109 :: x110 :: x111 :: x112 :: x113 :: x114 :: x115 :: x116 :: x117 :: x118 :: x119 :: x120 :: x121 :: x122 :: x123 :: x124 :: x125 :: x126 :: x127 :: x128 :: x129 :: x130 :: x131 :: x132 :: x133 :: x134 :: x135 ::
   x136 :: x137 :: x138 :: x139 :: x140 :: x141 :: x142 :: x143 :: x144 :: x145 :: x146 :: x147 :: x148 :: x149 :: x150 :: x151 :: x152 :: x153 :: x154 :: x155 :: x156 :: x157 :: x158 :: x159 :: x160 :: x161 :: x162 :: x163 :: x164 :: x165 :: x166 :: x167 :: x168 ::
   x169 :: x170 :: u171 :: u172 :: u173 :: u174 :: u175 :: u176 :: u177 :: u178 :: u179 :: u180 :: u181 :: u182 :: u183 :: u184 :: u185 :: u186 :: u187 :: u188 :: u189 :: u190 :: u191 :: u192 :: u193 :: u194 :: u195 :: u196 :: []), []⟩ w') :
  (Code.loop (loopBody Tryd.f53 1)).wp Tryd.prog Q ⟨List.toArray ((.pointer (some ⟨gb, 0, none⟩)) :: u1 :: u2 :: (.pointer (some ⟨gM, 0, none⟩)) :: u4 :: u5 :: (.int .i64 0) :: u7 :: u8 :: u9 :: u10 :: u11 :: u12 :: u13 :: u14 :: u15 :: u16 :: u17 :: u18 :: u19 :: u20 :: u21 :: u22 :: u23 :: u24 :: u25 :: u26 :: u27 :: u28 ::
   u29 :: u30 :: u31 :: u32 :: u33 :: u34 :: u35 :: u36 :: u37 :: u38 :: u39 :: u40 :: u41 :: u42 :: u43 :: u44 :: u45 :: u46 :: u47 :: u48 :: u49 :: u50 :: u51 :: u52 :: u53 :: u54 :: u55 :: u56 :: u57 :: u58 :: u59 :: u60 :: u61 :: u62 :: u63 :: u64 :: u65 ::
   u66 :: u67 :: u68 :: u69 :: u70 :: u71 :: u72 :: u73 :: u74 :: u75 :: u76 :: u77 :: u78 :: u79 :: u80 :: u81 :: u82 :: u83 :: u84 :: u85 :: u86 :: u87 :: u88 :: u89 :: u90 :: u91 :: u92 :: u93 :: u94 :: u95 :: u96 :: u97 :: u98 :: u99 :: u100 :: u101 :: u102 ::
   u103 :: u104 :: u105 :: u106 :: u107 :: u108 :: u109 :: u110 :: u111 :: u112 :: u113 :: u114 :: u115 :: u116 :: u117 :: u118 :: u119 :: u120 :: u121 :: u122 :: u123 :: u124 :: u125 :: u126 :: u127 :: u128 :: u129 :: u130 :: u131 :: u132 :: u133 :: u134 :: u135 ::
   u136 :: u137 :: u138 :: u139 :: u140 :: u141 :: u142 :: u143 :: u144 :: u145 :: u146 :: u147 :: u148 :: u149 :: u150 :: u151 :: u152 :: u153 :: u154 :: u155 :: u156 :: u157 :: u158 :: u159 :: u160 :: u161 :: u162 :: u163 :: u164 :: u165 :: u166 :: u167 :: u168 ::
   u169 :: u170 :: u171 :: u172 :: u173 :: u174 :: u175 :: u176 :: u177 :: u178 :: u179 :: u180 :: u181 :: u182 :: u183 :: u184 :: u185 :: u186 :: u187 :: u188 :: u189 :: u190 :: u191 :: u192 :: u193 :: u194 :: u195 :: u196 :: []), []⟩ w := by
 conv => arg 2; arg 1; whnf
 go_loopw [6] (fun kk wr => ∃ (k : Nat) (l' : List Nat) (vl' vbr' : Value) (t' : List (List (List Nat))), kk = .int .i64 (k : Int) ∧ k ≤ 64 ∧ k ≤ l'.length ∧ l'.length ≤ 33000 ∧ BWU wb wr gb gm gM L (.int .i64 64) cap4 cap5 cap6 vl' vleaf vbr' l' lf t' ∧ l <+: l' ∧ l'.Nodup ∧ (∀ s ∈ l', Reach L leaf br s) ∧ (∀ s ∈ l', P s) ∧
  TabOK L br l' (fun _ => k) t' ∧ t'.length = k) (fun kk _ => 60000 - (intOf kk).toNat)
 case atStart => exact ⟨0, l, vl, _, [], rfl, by omega, by omega, hl, hB, List.prefix_refl _, hn, hR, hP, fun i r h => by simp at h, rfl⟩
 case round =>
  obtain ⟨k, l', vl', vbr', t', rfl, hk64, hkl, hl', hB', hpre, hn', hR', hP', hT', htl'⟩ := hrel
  obtain ⟨A, c, rfl⟩ := slice_of_own hB'.bld.row
  have hcb := hB'.bld.blk.cell
  have hNN := hide hn'
  have hRR := hide hR'
  have hPP := hide hP'
  have hpp := hide hpre
  have hTT := hide hT'
  have hTL := hide htl'
  clear hn' hR' hP' hpre hT' htl' hR hP hn
  go_wp2_with fail
  ·refine Reg.region_plain [0, 1, 3, 7, 15, 31, 63, 127, 255, 511, 1023, 63, 2111, 6207, 14399, 32767, 65535] (by kernel_rfl) (by repeat (first | exact hN | refine Reg.NoQ.then ?_ | refine Reg.NoQ.inBlock ?_)) ?_
   go_wp2_with fail
   ·exact hQr _ _ _ _ _ _ _ _ _ _ _ _ _ _ _ _ _ _ _ _ _ _ _ _ _ _ _ _ _ _ _ _ _ _ _ _ _ _ _ _ _ _ _ _ _ _ _ _ _ _ _ _ _ _ _ _ _ _ _ _ _ _ _ _ _ _ _ _ _ _ _ _ _ _ _ _ _ _ _ _ _ _ _ _ _ _ _ _ _ _ _ _ _ _ _ _ _ _ _ _ _ _ _ _ _ _ _ _ _ _ _ _ _ _ _ _ _ _ _ _ _ _ _ _ _ _ _ wr.drew _ _ l' t' hB'.drew hNN.out hRR.out (by omega)
   ·refine Reg.region_plain [0, 0, 2, 6, 14, 30, 1, 127] (by kernel_rfl) (by repeat (first | exact hN | refine Reg.NoQ.then ?_ | refine Reg.NoQ.inBlock ?_)) ?_
    go_wp2_with fail
    refine bld_lines (n0 := k) (l0 := l') hC (by omega) hL hkl hB'.drew.drew (Mid.refl hNN.out) hPP.out hTL.out hTT.out ?_ ?_
    ·repeat (first | exact hN | refine Reg.NoQ.then ?_ | refine Reg.NoQ.inBlock ?_)
    ·iterate 89 (intro _)
     intro w2 vl2 vbr2 l2 t2 hB2 hM3 hpre2 hP2 hT2 htl2
     have hMM := hide hM3
     have hPP2 := hide hP2
     have hpp2 := hide hpre2
     have hTT2 := hide hT2
     have hTL2 := hide htl2
     clear hM3 hP2 hpre2 hT2 htl2
     go_wp2_with fail
     have hle := hMM.out.len (by omega) hL
     exact ⟨⟨l'.length, l2, vl2, _, t2, rfl, by omega, hpp2.out.length_le, hle, hB2, hpp.out.trans hpp2.out, hMM.out.nodup, hMM.out.reach hRR.out, hPP2.out, hTT2.out, hTL2.out⟩, by simp [intOf]; omega⟩
  ·obtain rfl : k = l'.length := by omega
   exact hQ _ _ _ _ _ _ _ _ _ _ _ _ _ _ _ _ _ _ _ _ _ _ _ _ _ _ _ _ _ _ _ _ _ _ _ _ _ _ _ _ _ _ _ _ _ _ _ _ _ _ _ _ _ _ _ _ _ _ _ _ _ _ _ _ _ _ _ _ _ _ _ _ _ _ _ _ _ _ _ _ _ _ _ _ _ _ _ _ _ _ _ _ _ _ _ _ _ _ _ _ _ _ _ _ _ _ _ _ _ _ _ _ _ _ _ _ _ _ _ _ _ _ _ _ _ _ _ _ wr _ _ l' t' hB' hpp.out hNN.out hRR.out hPP.out hTT.out hTL.out hk64
end Go.Proofs.YtbjdgepfhhafjaaDoor
namespace Go.Proofs.YtbjdgepfhhafjaaDoor
open Go.RowKit
theorem row22 : RowTy Tryd.prog 24 3 1 := rowTy_of Tryd.underlying24 info3 rfl (by omega) (by omega)
theorem bld_leaves {wb : World} {gb gm gM L : Nat} {c1 cap4 cap5 cap6 : Value} {leaf : Nat → Nat} {br : Nat → Nat → Nat → Nat} {acc : Nat → Bool} {P : Nat → Prop} (hC : ClosU wb gb L cap4 cap5 cap6 leaf br acc P)
  (hL : L ≤ 8)
  {w : World} (hB : BWU wb w gb gm gM L c1 cap4 cap5 cap6 (.slice none 0 0) (.slice none 0 0) (.slice none 0 0) [] [] [])
  {u1 u2 u4 u5 u6 u7 u8 u9 u10 u11 u12 u13 u14 u15 u16 u17 u18 u19 u20 u21 u22 u23 u24 u25 u26 u27 u30 u31 u32 u33 u34 u35 u36 u37 u38 u39 u40 u41 u42 u43 u44 u45 u46 u47 u48 u49 u50 u51 u52 u53 u54 u55 u56 u57 u58 u59 u60 u61 u62 u63 u64 u65 u66 u67 u68 u69 u70 u71 u72 u73 u74 u75 u76 u77 u78 u79 u80 u81 u82 u83 u84 u85 u86 u87 u88 u89 u90 u91 u92 u93 u94 u95 u96 u97 u98 u99 u100 u101 u102 u103 u104 u105 u106 u107 u108 u109 u110 u111 u112 u113 u114 u115 u116 u117 u118 u119 u120 u121 u122 u123 u124 u125 u126 u127 u128 u129 u130 u131 u132 u133 u134 u135 u136 u137 u138 u139 u140 u141 u142 u143 u144 u145 u146 u147 u148 u149 u150 u151 u152 u153 u154 u155 u156 u157 u158 u159 u160 u161 u162 u163 u164 u165 u166 u167 u168 u169 u170 u171 u172 u173 u174 u175 u176 u177 u178 u179 u180 u181 u182 u183 u184 u185 u186 u187 u188 u189 u190 u191 u192 u193 u194 u195 u196 : Value}
  {Q : Exit → Act → World → Prop} (_ : Reg.NoQ Q)
  (hQ : ∀ (x4 x5 x29 x30 x31 x32 x33 x34 x35 x36 x37 x38 x39 x40 x41 x42 x43 x44 x45 x46 x47 x48 x49 x50 : Value) (w' : World) (vl' vleaf' : Value) (l' lf' : List Nat), BWU wb w' gb gm gM L c1 cap4 cap5 cap6 vl' vleaf' (.slice none 0 0) l' lf' [] → l'.Nodup → (∀ s ∈ l', Reach L leaf br s) → (∀ s ∈ l', P s) →
   l'.length ≤ L → lf'.length = L → LeafOK leaf l' lf' →
   Q (.exit 0) ⟨List.toArray ((.pointer (some ⟨gb, 0, none⟩)) :: u1 :: u2 :: (.pointer (some ⟨gM, 0, none⟩)) :: x4 :: x5 :: u6 :: u7 :: u8 :: u9 :: u10 :: u11 :: u12 :: u13 :: u14 :: u15 :: u16 :: u17 :: u18 :: u19 :: u20 :: u21 :: u22 :: u23 :: u24 :: u25 :: u26 :: u27 :: (.int .i64 L) ::
   x29 :: x30 :: x31 :: x32 :: x33 :: x34 :: x35 :: x36 :: x37 :: x38 :: x39 :: x40 :: x41 :: x42 :: x43 :: x44 :: x45 :: x46 :: x47 :: x48 :: x49 :: x50 :: u51 :: u52 :: u53 :: u54 :: u55 :: u56 :: u57 :: u58 :: u59 :: u60 :: u61 :: u62 :: u63 :: u64 :: u65 ::
   u66 :: u67 :: u68 :: u69 :: u70 :: u71 :: u72 :: u73 :: u74 :: u75 :: u76 :: u77 :: u78 :: u79 :: u80 :: u81 :: u82 :: u83 :: u84 :: u85 :: u86 :: u87 :: u88 :: u89 :: u90 :: u91 :: u92 :: u93 :: u94 :: u95 :: u96 :: u97 :: u98 :: u99 :: u100 :: u101 :: u102 ::
   u103 :: u104 :: u105 :: u106 :: u107 :: u108 :: u109 :: u110 :: u111 :: u112 :: u113 :: u114 :: u115 :: u116 :: u117 :: u118 :: u119 :: u120 :: u121 :: u122 :: u123 :: u124 :: u125 :: u126 :: u127 :: u128 :: u129 :: u130 :: u131 :: u132 :: u133 :: u134 :: u135 ::
   u136 :: u137 :: u138 :: u139 :: u140 :: u141 :: u142 :: u143 :: u144 :: u145 :: u146 :: u147 :: u148 :: u149 :: u150 :: u151 :: u152 :: u153 :: u154 :: u155 :: u156 :: u157 :: u158 :: u159 :: u160 :: u161 :: u162 :: u163 :: u164 :: u165 :: u166 :: u167 :: u168 ::
   u169 :: u170 :: u171 :: u172 :: u173 :: u174 :: u175 :: u176 :: u177 :: u178 :: u179 :: u180 :: u181 :: u182 :: u183 :: u184 :: u185 :: u186 :: u187 :: u188 :: u189 :: u190 :: u191 :: u192 :: u193 :: u194 :: u195 :: u196 :: []), []⟩ w') :
  (Code.loop (loopBody Tryd.f53 0)).wp Tryd.prog Q ⟨List.toArray ((.pointer (some ⟨gb, 0, none⟩)) :: u1 :: u2 :: (.pointer (some ⟨gM, 0, none⟩)) :: u4 :: u5 :: u6 :: u7 :: u8 :: u9 :: u10 :: u11 :: u12 :: u13 :: u14 :: u15 :: u16 :: u17 :: u18 :: u19 :: u20 :: u21 :: u22 :: u23 :: u24 :: u25 :: u26 :: u27 :: (.int .i64 L) ::
   (.int .i64 0) :: u30 :: u31 :: u32 :: u33 :: u34 :: u35 :: u36 :: u37 :: u38 :: u39 :: u40 :: u41 :: u42 :: u43 :: u44 :: u45 :: u46 :: u47 :: u48 :: u49 :: u50 :: u51 :: u52 :: u53 :: u54 :: u55 :: u56 :: u57 :: u58 :: u59 :: u60 :: u61 :: u62 :: u63 :: u64 ::
   u65 :: u66 :: u67 :: u68 :: u69 :: u70 :: u71 :: u72 :: u73 :: u74 :: u75 :: u76 :: u77 :: u78 :: u79 :: u80 :: u81 :: u82 :: u83 :: u84 :: u85 :: u86 :: u87 :: u88 :: u89 :: u90 :: u91 :: u92 :: u93 :: u94 :: u95 :: u96 :: u97 :: u98 :: u99 :: u100 :: u101 ::
   u102 :: u103 :: u104 :: u105 :: u106 :: u107 :: u108 :: u109 :: u110 :: u111 :: u112 :: u113 :: u114 :: u115 :: u116 :: u117 :: u118 :: u119 :: u120 :: u121 :: u122 :: u123 :: u124 :: u125 :: u126 :: u127 :: u128 :: u129 :: u130 :: u131 :: u132 :: u133 :: u134 ::
   u135 :: u136 :: u137 :: u138 :: u139 :: u140 :: u141 :: u142 :: u143 :: u144 :: u145 :: u146 :: u147 :: u148 :: u149 :: u150 :: u151 :: u152 :: u153 :: u154 :: u155 :: u156 :: u157 :: u158 :: u159 :: u160 :: u161 :: u162 :: u163 :: u164 :: u165 :: u166 :: u167 ::
   u168 :: u169 :: u170 :: u171 :: u172 :: u173 :: u174 :: u175 :: u176 :: u177 :: u178 :: u179 :: u180 :: u181 :: u182 :: u183 :: u184 :: u185 :: u186 :: u187 :: u188 :: u189 :: u190 :: u191 :: u192 :: u193 :: u194 :: u195 :: u196 :: []), []⟩ w := by
 conv => arg 2; arg 1; whnf
 go_loopw [29] (fun kk wr => ∃ (l' lf' : List Nat) (vl' vleaf' : Value), kk = .int .i64 (lf'.length : Int) ∧ lf'.length ≤ L ∧ l'.length ≤ lf'.length ∧ BWU wb wr gb gm gM L c1 cap4 cap5 cap6 vl' vleaf' (.slice none 0 0) l' lf' [] ∧ l'.Nodup ∧ (∀ s ∈ l', Reach L leaf br s) ∧ (∀ s ∈ l', P s) ∧
  LeafOK leaf l' lf') (fun kk _ => L - (intOf kk).toNat)
 case atStart => exact ⟨[], [], _, _, rfl, by simp, by simp, hB, List.nodup_nil, by simp, by simp, fun x e h => by simp at h⟩
 case round =>
  obtain ⟨l', lf', vl', vleaf', rfl, hlf, hll, hB', hn', hR', hP', hLf⟩ := hrel
  have hcb := hB'.bld.blk.cell
  have hwb := hB'.kept.size
  have hNN := hide hn'
  have hRR := hide hR'
  have hPP := hide hP'
  have hLL := hide hLf
  clear hn' hR' hP' hLf
  go_wp2_with (first
   | (go_at_call 50; refine Calls.ret (hC.fl _ hB'.kept lf'.length (by omega)) ?_; rintro v w1 ⟨rfl, hb1⟩; have hB1 := hB'.below hb1; have hsz1 := hb1.size)
   | (go_at_call 73; refine Calls.ret (meetU w1 wb.heap.size gb gm _ c1 _ _ _ _ l' (leaf lf'.length) hB1.bld (by omega) (Nat.le_trans hwb hsz1)) ?_; rintro v w2 ⟨rfl, vl2, hBl, hk2, hmv2⟩; have hB2 := hB1.list hk2 hBl; have hcm := hB2.mach.cell; have hwb2 := hB2.kept.size; obtain ⟨A, c, rfl⟩ := slice_of_own hB2.lfs)
   | (at_builtin; refine wpList_app_new row22 rfl _ _ rfl wb.heap.size (.slice A lf'.length c) lf'.length _ rfl hB2.lfs [.int .i64 ((meetL l' (leaf lf'.length)).idxOf (leaf lf'.length) : Nat)] 1 rfl rfl (by simp [Value.oneCell']) (by omega) hwb2 ?_; intro g cap' w3 hown hk3 hmv3 hg3; have hm3 := hB2.mach.kept hk3 (fun e => own_blk_ne hB2.lfs hB2.mach (by decide) e); have hcm3 := hm3.cell; have hfm3 := hm3.frozen))
  ·have hX : ∀ k, ((Value.slice A lf'.length c).ownBlock = some k ∨ k = gM) → wb.heap.size ≤ k ∧ ∃ t cs, Blk w2 k t cs ∧ t ≠ 100 ∧ 92 ≠ t := by
    rintro k (hk | rfl)
    ·obtain ⟨cs, hb⟩ := own_blk hB2.lfs hk
     exact ⟨own_base hB2.lfs hk, 3, cs, hb, by decide, by decide⟩
    ·exact ⟨hB2.gM_, 79, _, hB2.mach, by decide, by decide⟩
   have hk5 := (hk3.mono (Y := fun k => (Value.slice A lf'.length c).ownBlock = some k ∨ k = gM) fun _ _ h => .inl h).setCell (p := ⟨gM, 2, none⟩) (fun _ => .inr rfl) (.slice (some ⟨g, 0, none⟩) (lf'.length + 1) cap')
   have hks := (Kept.refl w3 (fun k => k = gM)).setCell (p := ⟨gM, 2, none⟩) (fun _ => rfl) (.slice (some ⟨g, 0, none⟩) (lf'.length + 1) cap')
   have hown2 := own_ty hks hown (fun k cs e hb => by subst e; exact hm3.ne_ hb (by decide) rfl)
   have hlen := length_meetL l' (leaf lf'.length)
   refine ⟨⟨meetL l' (leaf lf'.length), lf' ++ [(meetL l' (leaf lf'.length)).idxOf (leaf lf'.length)], vl2, _, by simp, by simp; omega, by simp; omega,
    ⟨hB2.kept.trans hk5 (fun b hb hx => by have := (hX b hx).1; omega), hB2.bld.other hk5 (fun k hk => (hX k hk).2), hm3.set_ 2 _, ?_, Tab.nil, hB2.gm_, hB2.gM_⟩, nodup_meetL hNN.out _, ?_, ?_, ?_⟩, by simp [intOf]; omega⟩
   ·unfold IntRow
    simpa [encN] using hown2
   ·intro u hu
    rcases mem_meetL.1 hu with hu | rfl
    ·exact hRR.out u hu
    ·exact .leaf _ (by omega)
   ·intro u hu
    rcases mem_meetL.1 hu with hu | rfl
    ·exact hPP.out u hu
    ·exact hC.pleaf _ (by omega)
   ·exact (hLL.out.grow (prefix_meetL _ _)).snoc (get_meetL _ _)
  ·exact hQ _ _ _ _ _ _ _ _ _ _ _ _ _ _ _ _ _ _ _ _ _ _ _ _ wr vl' vleaf' l' lf' hB' hNN.out hRR.out hPP.out (by omega) (by omega) hLL.out
end Go.Proofs.YtbjdgepfhhafjaaDoor
namespace Go.Proofs.YtbjdgepfhhafjaaDoor
open Go.RowKit
theorem info4 : (Tryd.prog.info? 4).map (fun i => (i.zero, i.size, i.bytes)) = some (some (.bool false), 1, 1) := by kernel_rfl
theorem row79 : RowTy Tryd.prog 76 4 1 := rowTy_of Tryd.underlying76 info4 rfl (by omega) (by omega)
structure MachA (w : World) (base gM L : Nat) (vacc vleaf vbr : Value) (ac : List Bool) (lf : List Nat) (t : List (List (List Nat))) : Prop where
 blk : Blk w gM 79 #[.int .i64 L, vacc, vleaf, vbr]
 acc : w.ownsRow base 4 1 vacc ac.length (ac.map .bool)
 lfs : IntRow w base vleaf lf
 tab : Tab w base vbr t
def Mach (w : World) (base gM L : Nat) (ac : List Bool) (lf : List Nat) (t : List (List (List Nat))) : Prop := ∃ vacc vleaf vbr, MachA w base gM L vacc vleaf vbr ac lf t
theorem MachA.keep {w w' : World} {X : Nat → Prop} {base gM L : Nat} {vacc vleaf vbr : Value} {ac : List Bool} {lf : List Nat} {t : List (List (List Nat))} (h : MachA w base gM L vacc vleaf vbr ac lf t) (hk : Kept w w' X)
  (hX : ∀ k t cs, X k → Blk w k t cs → t ≠ 79 ∧ t ≠ 4 ∧ t ≠ 3 ∧ t ≠ 24 ∧ t ≠ 81) : MachA w' base gM L vacc vleaf vbr ac lf t := by
 have hn : ∀ (e : TypeId), (e = 79 ∨ e = 4 ∨ e = 3 ∨ e = 24 ∨ e = 81) → ∀ k cs, X k → ¬ Blk w k e cs := fun e he k cs hx hb => by
  have := hX k e cs hx hb
  rcases he with rfl | rfl | rfl | rfl | rfl <;> simp_all
 obtain ⟨us, hu⟩ := h.tab.open
 refine ⟨h.blk.kept hk fun hx => hn 79 (by simp) _ _ hx h.blk, own_ty hk h.acc (hn 4 (by simp)), own_ty hk h.lfs (hn 3 (by simp)), (hu.keep hk (hn 3 (by simp)) (hn 24 (by simp)) fun g hg hx => ?_).close⟩
 obtain ⟨cs, hb⟩ := own_blk hu.own hg
 exact hn 81 (by simp) _ _ hx hb
theorem bld_accept {wb : World} {gb gm gM L g0 cap0 : Nat} {c1 cap4 cap5 cap6 vleaf vbr : Value} {leaf : Nat → Nat} {br : Nat → Nat → Nat → Nat} {acc : Nat → Bool} {P : Nat → Prop} (hC : ClosU wb gb L cap4 cap5 cap6 leaf br acc P)
  {w : World} {l lf : List Nat} {t : List (List (List Nat))} (hK : Kept wb w (fun k => k = gb)) (hB : BldU w wb.heap.size gb gm (.int .i64 L) c1 (.func (.func 50) #[] #[cap4]) (.func (.func 51) #[] #[cap5]) (.func (.func 52) #[] #[cap6]) (.slice (some ⟨g0, 0, none⟩) l.length cap0) l)
  (hM : MachA w wb.heap.size gM L (.slice none 0 0) vleaf vbr [] lf t) (hgM : wb.heap.size ≤ gM) (hP : ∀ s ∈ l, P s) (hl : l.length ≤ 64)
  {u1 u2 u4 u5 u6 u7 u8 u9 u10 u11 u12 u13 u14 u15 u16 u17 u18 u19 u20 u21 u22 u23 u24 u25 u26 u27 u28 u29 u30 u31 u32 u33 u34 u35 u36 u37 u38 u39 u40 u41 u42 u43 u44 u45 u46 u47 u48 u49 u50 u51 u52 u53 u54 u55 u56 u57 u58 u59 u60 u61 u62 u63 u64 u65 u66 u67 u68 u69 u70 u71 u72 u73 u74 u75 u76 u77 u78 u79 u80 u81 u82 u83 u84 u85 u86 u87 u88 u89 u90 u91 u92 u93 u94 u95 u96 u97 u98 u99 u100 u101 u102 u103 u104 u105 u106 u107 u108 u109 u110 u111 u112 u113 u114 u115 u116 u117 u118 u119 u120 u121 u122 u123 u124 u125 u126 u127 u128 u129 u130 u131 u132 u133 u134 u135 u136 u137 u138 u139 u140 u141 u142 u143 u144 u145 u146 u147 u148 u149 u150 u151 u152 u153 u154 u155 u156 u157 u158 u159 u160 u161 u162 u163 u164 u165 u166 u167 u168 u169 u170 u171 u172 u173 u177 u178 u179 u180 u181 u182 u183 u184 u185 u186 u187 u188 u189 u190 u191 u192 u193 u194 u195 u196 : Value}
  {Q : Exit → Act → World → Prop} (hN : Reg.NoQ Q)
  (hQ : ∀ (x14 x176 x177 x178 x179 x180 x181 x182 x183 x184 x185 x186 x187 x188 x189 x190 x191 x192 x193 x194 x195 : Value) (w' : World) (vacc : Value), Kept wb w' (fun k => k = gb) → MachA w' wb.heap.size gM L vacc vleaf vbr (l.map acc) lf t →
   Q (.exit 10) ⟨List.toArray ((.pointer (some ⟨gb, 0, none⟩)) :: u1 :: u2 :: (.pointer (some ⟨gM, 0, none⟩)) :: u4 :: u5 :: u6 :: u7 :: u8 :: u9 :: u10 :: u11 :: u12 :: u13 :: x14 :: u15 :: u16 :: u17 :: u18 :: u19 :: u20 :: u21 :: u22 :: u23 :: u24 :: u25 :: u26 :: u27 :: u28 :: u29 ::
   u30 :: u31 :: u32 :: u33 :: u34 :: u35 :: u36 :: u37 :: u38 :: u39 :: u40 :: u41 :: u42 :: u43 :: u44 :: u45 :: u46 :: u47 :: u48 :: u49 :: u50 :: u51 :: u52 :: u53 :: u54 :: u55 :: u56 :: u57 :: u58 :: u59 :: u60 :: u61 :: u62 :: u63 :: u64 :: u65 :: u66 ::
   u67 :: u68 :: u69 :: u70 :: u71 :: u72 :: u73 :: u74 :: u75 :: u76 :: u77 :: u78 :: u79 :: u80 :: u81 :: u82 :: u83 :: u84 :: u85 :: u86 :: u87 :: u88 :: u89 :: u90 :: u91 :: u92 :: u93 :: u94 :: u95 :: u96 :: u97 :: u98 :: u99 :: u100 :: u101 :: u102 :: u103 ::
   u104 :: u105 :: u106 :: u107 :: u108 :: u109 :: u110 :: u111 :: u112 :: u113 :: u114 :: u115 :: u116 :: u117 :: u118 :: u119 :: u120 :: u121 :: u122 :: u123 :: u124 :: u125 :: u126 :: u127 :: u128 :: u129 :: u130 :: u131 :: u132 :: u133 :: u134 :: u135 :: u136 ::
   u137 :: u138 :: u139 :: u140 :: u141 :: u142 :: u143 :: u144 :: u145 :: u146 :: u147 :: u148 :: u149 :: u150 :: u151 :: u152 :: u153 :: u154 :: u155 :: u156 :: u157 :: u158 :: u159 :: u160 :: u161 :: u162 :: u163 :: u164 :: u165 :: u166 :: u167 :: u168 :: u169 ::
   u170 :: u171 :: u172 :: u173 :: (.slice (some ⟨g0, 0, none⟩) l.length cap0) :: (.int .i64 l.length) :: x176 :: x177 :: x178 :: x179 :: x180 :: x181 :: x182 :: x183 :: x184 :: x185 :: x186 :: x187 :: x188 :: x189 :: x190 :: x191 :: x192 :: x193 :: x194 :: x195 ::
   u196 :: []), []⟩ w') :
  (Code.loop (loopBody Tryd.f53 5)).wp Tryd.prog Q ⟨List.toArray ((.pointer (some ⟨gb, 0, none⟩)) :: u1 :: u2 :: (.pointer (some ⟨gM, 0, none⟩)) :: u4 :: u5 :: u6 :: u7 :: u8 :: u9 :: u10 :: u11 :: u12 :: u13 :: u14 :: u15 :: u16 :: u17 :: u18 :: u19 :: u20 :: u21 :: u22 :: u23 :: u24 :: u25 :: u26 :: u27 :: u28 :: u29 ::
   u30 :: u31 :: u32 :: u33 :: u34 :: u35 :: u36 :: u37 :: u38 :: u39 :: u40 :: u41 :: u42 :: u43 :: u44 :: u45 :: u46 :: u47 :: u48 :: u49 :: u50 :: u51 :: u52 :: u53 :: u54 :: u55 :: u56 :: u57 :: u58 :: u59 :: u60 :: u61 :: u62 :: u63 :: u64 :: u65 :: u66 ::
   u67 :: u68 :: u69 :: u70 :: u71 :: u72 :: u73 :: u74 :: u75 :: u76 :: u77 :: u78 :: u79 :: u80 :: u81 :: u82 :: u83 :: u84 :: u85 :: u86 :: u87 :: u88 :: u89 :: u90 :: u91 :: u92 :: u93 :: u94 :: u95 :: u96 :: u97 :: u98 :: u99 :: u100 :: u101 :: u102 :: u103 ::
   u104 :: u105 :: u106 :: u107 :: u108 :: u109 :: u110 :: u111 :: u112 :: u113 :: u114 :: u115 :: u116 :: u117 :: u118 :: u119 :: u120 :: u121 :: u122 :: u123 :: u124 :: u125 :: u126 :: u127 :: u128 :: u129 :: u130 :: u131 :: u132 :: u133 :: u134 :: u135 :: u136 ::
   u137 :: u138 :: u139 :: u140 :: u141 :: u142 :: u143 :: u144 :: u145 :: u146 :: u147 :: u148 :: u149 :: u150 :: u151 :: u152 :: u153 :: u154 :: u155 :: u156 :: u157 :: u158 :: u159 :: u160 :: u161 :: u162 :: u163 :: u164 :: u165 :: u166 :: u167 :: u168 :: u169 ::
   u170 :: u171 :: u172 :: u173 :: (.slice (some ⟨g0, 0, none⟩) l.length cap0) :: (.int .i64 l.length) :: (.int .i64 0) :: u177 :: u178 :: u179 :: u180 :: u181 :: u182 :: u183 :: u184 :: u185 :: u186 :: u187 :: u188 :: u189 :: u190 :: u191 :: u192 :: u193 :: u194 ::
   u195 :: u196 :: []), []⟩ w := by
 conv => arg 2; arg 1; whnf
 go_loopw [176] (fun kk wr => ∃ (ac : List Bool) (vacc : Value), kk = .int .i64 (ac.length : Int) ∧ ac.length ≤ l.length ∧ Kept wb wr (fun k => k = gb) ∧ BldU wr wb.heap.size gb gm (.int .i64 L) c1 (.func (.func 50) #[] #[cap4]) (.func (.func 51) #[] #[cap5]) (.func (.func 52) #[] #[cap6]) (.slice (some ⟨g0, 0, none⟩) l.length cap0) l ∧
  MachA wr wb.heap.size gM L vacc vleaf vbr ac lf t ∧ Hid (ac = (l.take ac.length).map acc)) (fun kk _ => l.length - (intOf kk).toNat)
 case atStart => exact ⟨[], _, rfl, Nat.zero_le _, hK, hB, hM, rfl⟩
 case round =>
  obtain ⟨ac, vacc, rfl, hk, hK', hB', hM', hac⟩ := hrel
  obtain ⟨A, c, rfl⟩ := slice_of_own hM'.acc
  have hcb := hB'.blk.cell
  have hcm := hM'.blk.cell
  have hPP := hide hP
  clear hP
  by_cases hlt : ac.length < l.length
  ·obtain ⟨s, hs⟩ : ∃ s, l[ac.length]? = some s := ⟨_, List.getElem?_eq_getElem hlt⟩
   have hci := own_cell hB'.row (map_get (f := encU) hs)
   simp only [encU] at hci
   have hPs := hPP.out s (List.mem_of_getElem? hs)
   have hHs := hide hs
   clear hs
   go_wp2_with fail
   refine Reg.region_cut [0, 0, 2, 6, 14, 0, 32, 96, 224, 0, 992, 2016, 4094, 8191, 16383, 32767] [0, 1, 2, 3, 4, 5, 6, 7, 8, 9, 10, 11, 12, 13, 14, 15] (by kernel_rfl) (by repeat (first | exact hN | refine Reg.NoQ.then ?_ | refine Reg.NoQ.inBlock ?_)) ?_
   refine Reg.rest_walk' [0, 1, 2, 3, 4, 5, 6, 7, 8, 9] [10, 11, 12, 13, 14, 15] rfl (by kernel_rfl) ?_
   intro Qf hQf
   go_wp2_with fail
   rw [List.filterMap_nil]
   go_wp2_with fail
   refine Reg.rest_act' 10 [11, 12, 13, 14, 15] [4] rfl (by kernel_rfl) ?_
   intro Qf hQf
   simp only [gT, gS, gZ]
   go_wp2_with (go_at_call 52; refine Calls.ret (hC.fa _ hK'.drew s hPs) ?_; rintro v w1 ⟨rfl, hb0⟩; have hb1 : Below wr.heap.size wr w1 := ⟨hb0.os, hb0.tape, hb0.output, hb0.size, hb0.block⟩)
   refine ⟨Reg.same_below hb0 [4] rfl, ?_⟩
   clear hb0
   have hkb : Kept wr w1 (fun _ => False) := Kept.of_below hb1 _
   have hB1 := hB'.below hb1
   have hM1 := hM'.keep hkb (fun _ _ _ h => h.elim)
   have hK1 := hK'.trans hkb (fun _ _ h => h.elim)
   refine Reg.rest_walk' [11] [12, 13, 14, 15] rfl (by kernel_rfl) ?_
   intro Qf hQf
   go_wp2_with fail
   rw [List.filterMap_nil]
   go_wp2_with fail
   refine Reg.rest_act' 12 [13, 14, 15] [] rfl (by kernel_rfl) ?_
   intro Qf hQf
   simp only [gT, gS, gZ]
   refine wpList_app_new (w := w1) row79 rfl _ _ rfl wb.heap.size (.slice A ac.length c) ac.length _ rfl hM1.acc [.bool (acc s)] 1 rfl rfl (by simp [Value.oneCell']) (by omega) hK1.size ?_
   intro g cap' w3 hown hk3 hmv3 hg3
   have hm3 := hM1.blk.kept hk3 (fun e => own_blk_ne hM1.acc hM1.blk (by decide) e)
   have hcm3 := hm3.cell
   have hfm3 := hm3.frozen
   have hB3 := hB1.other hk3 (fun k hk => by
    obtain ⟨cs, hb⟩ := own_blk hM1.acc hk
    exact ⟨4, cs, hb, by decide, by decide⟩)
   have hK3 := hK1.trans hk3 (fun b hb hx => by have := own_base hM1.acc hx; omega)
   refine hQf _ _ ⟨Reg.nm, ?_⟩
   clear hQf
   refine Reg.rest_walk' [13, 14, 15] [] rfl (by kernel_rfl) ?_
   intro Qf hQf
   go_wp2_with fail
   rw [List.filterMap_nil]
   go_wp2_with fail
   refine Reg.rest_end ?_
   go_wp2_with fail
   have hks := (Kept.refl w3 (fun k => k = gM)).setCell (p := ⟨gM, 1, none⟩) (fun _ => rfl) (.slice (some ⟨g, 0, none⟩) (ac.length + 1) cap')
   have hg82 : ∀ (e : TypeId), e ≠ 79 → ∀ k cs, k = gM → ¬ Blk w3 k e cs := fun e he k cs ek hb => by subst ek; exact hm3.ne_ hb (fun h => he h.symm) rfl
   obtain ⟨us, hu⟩ := hM1.tab.open
   have hu3 := hu.keep hk3 (not_blk hM1.acc (by decide)) (not_blk hM1.acc (by decide)) (fun g hg => own_own_ne hu.own hM1.acc (by decide) hg)
   have hu4 := hu3.keep hks (hg82 3 (by decide)) (hg82 24 (by decide)) (fun k hk ek => hg82 81 (by decide) k _ ek (own_blk hu3.own hk).choose_spec)
   refine ⟨⟨ac ++ [acc s], _, by simp, by simp; omega, hK3.trans hks (fun b hb hx => by omega), hB3.other hks (fun k hk => by subst hk; exact ⟨79, _, hm3, by decide, by decide⟩), ⟨hm3.set_ 1 _, ?_, own_ty hks (own_ty hk3 hM1.lfs (not_blk hM1.acc (by decide))) (hg82 3 (by decide)), hu4.close⟩, ?_⟩, by simp [intOf]; omega⟩
   ·have := own_ty hks hown (hg82 4 (by decide))
    simpa using this
   ·show ac ++ [acc s] = _
    rw [List.length_append, List.length_singleton, List.take_add_one, hHs.out, List.map_append, ← hac.out]
    rfl
  ·have e : ac.length = l.length := by omega
   have he := hide e
   clear e
   go_wp2_with fail
   refine hQ _ _ _ _ _ _ _ _ _ _ _ _ _ _ _ _ _ _ _ _ _ wr (.slice A ac.length c) hK' ?_
   rw [he.out, List.take_length] at hac
   have := hac.out
   subst this
   exact hM'
end Go.Proofs.YtbjdgepfhhafjaaDoor
namespace Go.Proofs.YtbjdgepfhhafjaaDoor
open Go.RowKit
theorem mkmap_facts (t : TypeId) (w : World) : ∃ gm w1, (Instr.makeMap t none).run Tryd.prog w = .ok (.map (some gm)) w1 ∧ IdxMap w1 gm [] ∧ Below w.heap.size w w1 ∧ w.heap.size ≤ gm :=
 ⟨_, _, run_makeMap t w, IdxMap.made w, (Below.refl _ _).alloc (Nat.le_refl _) _, Nat.le_refl _⟩
theorem buildU {wb : World} {gb L : Nat} {cap4 cap5 cap6 : Value} {leaf : Nat → Nat} {br : Nat → Nat → Nat → Nat} {acc : Nat → Bool} {P : Nat → Prop} (hC : ClosU wb gb L cap4 cap5 cap6 leaf br acc P)
  (h0 : 0 < L) (hL : L ≤ 8) (hb : Blk wb gb 100 #[.int .i64 L, .int .i64 64, .map none, .slice none 0 0, .func (.func 50) #[] #[cap4], .func (.func 51) #[] #[cap5], .func (.func 52) #[] #[cap6]]) :
  Calls Tryd.prog 53 #[.pointer (some ⟨gb, 0, none⟩)] wb (Ret fun v w' => Kept wb w' (fun k => k = gb) ∧ ∃ l : List Nat, l.Nodup ∧ (∀ s ∈ l, Reach L leaf br s) ∧
   ((v = .pointer none ∧ 64 < l.length) ∨ ∃ gM lf t, v = .pointer (some ⟨gM, 0, none⟩) ∧ wb.heap.size ≤ gM ∧ Mach w' wb.heap.size gM L (l.map acc) lf t ∧ lf.length = L ∧ LeafOK leaf l lf ∧
    TabOK L br l (fun _ => l.length) t ∧ t.length = l.length ∧ l.length ≤ 64)) := by
 obtain ⟨gm, w1, hmk, hmap, hb1, hgm⟩ := mkmap_facts 98 wb
 have hblk1 := hb.kept (Kept.of_below hb1 fun _ => False) id
 have hcb := hblk1.cell
 have hfb := hblk1.frozen
 have hblk2 := hblk1.set_ 2 (.map (some gm))
 have hblk3 : Blk ((w1.setCell ⟨gb, 2, none⟩ (.map (some gm))).alloc (.cells #[.int .i64 L, .slice none 0 0, .slice none 0 0, .slice none 0 0] 79)) gb 100 #[.int .i64 L, .int .i64 64, .map (some gm), .slice none 0 0, .func (.func 50) #[] #[cap4], .func (.func 51) #[] #[cap5], .func (.func 52) #[] #[cap6]] :=
  hblk2.kept ((Kept.refl _ (fun _ => False)).alloc _) id
 have hcb2 := hblk3.cell 0
 have hgMb : wb.heap.size ≤ w1.heap.size := hb1.size
 have hk1 : Kept wb ((w1.setCell ⟨gb, 2, none⟩ (.map (some gm))).alloc (.cells #[.int .i64 L, .slice none 0 0, .slice none 0 0, .slice none 0 0] 79)) (fun k => k = gb) :=
  ((Kept.of_below hb1 (fun k => k = gb)).setCell (p := ⟨gb, 2, none⟩) (fun _ => rfl) _).alloc _
 have hmap3 : IdxMap ((w1.setCell ⟨gb, 2, none⟩ (.map (some gm))).alloc (.cells #[.int .i64 L, .slice none 0 0, .slice none 0 0, .slice none 0 0] 79)) gm [] :=
  hmap.kept (((Kept.refl w1 (fun k => k = gb)).setCell (p := ⟨gb, 2, none⟩) (fun _ => rfl) _).alloc _) (fun e => blk_map_ne hblk1 hmap e.symm)
 have hB0 : BWU wb ((w1.setCell ⟨gb, 2, none⟩ (.map (some gm))).alloc (.cells #[.int .i64 L, .slice none 0 0, .slice none 0 0, .slice none 0 0] 79)) gb gm w1.heap.size L (.int .i64 64) cap4 cap5 cap6 (.slice none 0 0) (.slice none 0 0) (.slice none 0 0) [] [] [] := by
  refine ⟨hk1, ⟨hblk3, hmap3, own_nil⟩, ?_, own_nil, Tab.nil, hgm, hgMb⟩
  have := Blk.new (w1.setCell ⟨gb, 2, none⟩ (.map (some gm))) 79 #[.int .i64 L, .slice none 0 0, .slice none 0 0, .slice none 0 0]
  simpa using this
 have hgmM : gm ≠ w1.heap.size := by have := hmap.lt; omega
 clear hk1 hmap3 hblk3 hblk2
 go_enter Tryd.func53, Tryd.ntmps53
 go_wp2_with fail
 refine bld_leaves hC hL hB0 ?_ ?_
 ·repeat (first | exact Reg.NoQ.body (fun _ _ h => h) (fun _ h => h) | refine Reg.NoQ.then ?_ | refine Reg.NoQ.inBlock ?_)
 iterate 24 (intro _)
 intro w2 vl2 vleaf2 l2 lf2 hB2 hn2 hR2 hP2 hl2 hlf2 hLf2
 have hNN := hide hn2
 have hRR := hide hR2
 have hPP := hide hP2
 have hLL := hide hLf2
 have hLl := hide hlf2
 clear hn2 hR2 hP2 hLf2 hlf2 hB0 hcb hcb2 hfb hmk hb
 go_wp2_with fail
 refine bld_rounds hC hL hB2 hNN.out hRR.out hPP.out (by omega) ?_ ?_ ?_
 ·repeat (first | exact Reg.NoQ.body (fun _ _ h => h) (fun _ h => h) | refine Reg.NoQ.then ?_ | refine Reg.NoQ.inBlock ?_)
 ·iterate 128 (intro _)
  intro w3 vl3 vbr3 l3 t3 hB3 hpre3 hn3 hR3 hP3 hT3 htl3 hl3
  have hls : 0 < l3.length := by
   have h1 := hLl.out
   obtain ⟨e, he⟩ : ∃ e, lf2[0]? = some e := ⟨_, List.getElem?_eq_getElem (by omega)⟩
   have := lt_of_get (prefix_get hpre3 (hLL.out 0 e he))
   omega
  obtain ⟨s0, hs0⟩ : ∃ s0, l3[0]? = some s0 := ⟨_, List.getElem?_eq_getElem hls⟩
  obtain ⟨g0, cap0, rfl, -⟩ := own_get hB3.bld.row (map_get (f := encU) hs0)
  have hcb := hB3.bld.blk.cell
  have hls' := hide hls
  have hH0 := hide hs0
  have hNN3 := hide hn3
  have hRR3 := hide hR3
  have hPP3 := hide hP3
  have hTT3 := hide hT3
  have hTL3 := hide htl3
  have hpp3 := hide hpre3
  clear hs0 hn3 hR3 hP3 hT3 htl3 hpre3 hls
  go_wp2_with fail
  refine bld_accept hC hB3.kept hB3.bld ⟨hB3.mach, own_nil, hB3.lfs, hB3.tab⟩ hB3.gM_ hPP3.out hl3 ?_ ?_
  ·repeat (first | exact Reg.NoQ.body (fun _ _ h => h) (fun _ h => h) | refine Reg.NoQ.then ?_ | refine Reg.NoQ.inBlock ?_)
  iterate 21 (intro _)
  intro w4 vacc4 hK4 hM4
  have hMM4 := hide hM4
  clear hM4
  go_wp2_with fail
  go_ret
  exact ⟨hK4, l3, hNN3.out, hRR3.out, .inr ⟨w1.heap.size, lf2, t3, rfl, hgMb, ⟨_, _, _, hMM4.out⟩, hLl.out, hLL.out.grow hpp3.out, hTT3.out, hTL3.out, hl3⟩⟩
 ·iterate 128 (intro _)
  intro vl3 vbr3 l3 t3 hB3 hn3 hR3 hl3
  have hNN3 := hide hn3
  have hRR3 := hide hR3
  have hBB3 := hide hB3
  clear hn3 hR3 hB3
  go_wp2_with fail
  go_ret
  exact ⟨hBB3.out.kept, l3, hNN3.out, hRR3.out, .inl ⟨rfl, hl3⟩⟩
end Go.Proofs.YtbjdgepfhhafjaaDoor
namespace Go.Proofs.YtbjdgepfhhafjaaDoor
open Go.RowKit
def U64 (n : Nat) : Prop := n < 18446744073709551616
def mOr (a b : Nat) : Nat := a ||| b
def mAnd (a b : Nat) : Nat := a &&& b
def mShr (s : Nat) (q : Int) : Nat := s >>> q.toNat
def mPow (q : Int) : Nat := 2 ^ q.toNat
def mBit (s : Nat) (q : Int) : Bool := s.testBit q.toNat
def mHit (a b : Nat) : Bool := mAnd a b != 0
theorem U64.zero : U64 0 := by unfold U64; omega
theorem U64.one : U64 1 := by unfold U64; omega
theorem U64.or {a b : Nat} (ha : U64 a) (hb : U64 b) : U64 (mOr a b) := Nat.or_lt_two_pow (n := 64) ha hb
theorem U64.and {a b : Nat} (ha : U64 a) : U64 (mAnd a b) := Nat.lt_of_le_of_lt Nat.and_le_left ha
theorem U64.shr {a : Nat} {q : Int} (ha : U64 a) : U64 (mShr a q) := by
 unfold U64 mShr at *
 rw [Nat.shiftRight_eq_div_pow]
 exact Nat.lt_of_le_of_lt (Nat.div_le_self _ _) ha
theorem U64.pow {q : Int} (h1 : q < 64) : U64 (mPow q) := by
 have : q.toNat < 64 := by omega
 exact Nat.pow_lt_pow_right (a := 2) (by omega) this
theorem bop_shr (t : TypeId) (s : Nat) (q : Int) (h0 : 0 ≤ q) (h1 : q < 64) : binOp .shr t (.int .u64 (s : Int)) (.int .i64 q) = pure (.int .u64 (mShr s q : Int)) := by
 rw [binOp_shr, shift_shr_u64 .i64 _ _ h0 (by omega)]
 unfold mShr
 rw [Nat.shiftRight_eq_div_pow]
 simp
theorem bop_shl (t : TypeId) (q : Int) (h0 : 0 ≤ q) (h1 : q < 64) : binOp .shl t (.int .u64 1) (.int .i64 q) = pure (.int .u64 (mPow q : Int)) := by
 rw [binOp_shl, shift_shl_u64 .i64 _ _ h0 (by omega), Int.one_mul]
 have h := U64.pow h1
 unfold U64 mPow at *
 have h3 : ((2 ^ q.toNat : Nat) : Int) = (2 : Int) ^ q.toNat := by simp
 rw [IntKind.wrap_u64, ← h3]
 generalize 2 ^ q.toNat = z at *
 congr 2
 omega
theorem bop_or (t : TypeId) (a b : Nat) (ha : U64 a) (hb : U64 b) : binOp .or t (.int .u64 (a : Int)) (.int .u64 (b : Int)) = pure (.int .u64 (mOr a b : Int)) := by
 rw [binOp_or, intBits_or, u64_or_nat a b ha hb]; rfl
theorem bop_and (t : TypeId) (a b : Nat) (ha : U64 a) (hb : U64 b) : binOp .and t (.int .u64 (a : Int)) (.int .u64 (b : Int)) = pure (.int .u64 (mAnd a b : Int)) := by
 rw [binOp_and, intBits_and, u64_and_nat a b ha hb]; rfl
theorem bop_and1 (t : TypeId) (a : Nat) (ha : U64 a) : binOp .and t (.int .u64 (a : Int)) (.int .u64 1) = pure (.int .u64 (mAnd a 1 : Int)) := bop_and t a 1 ha U64.one
theorem bop_bit (t : TypeId) (s : Nat) (q : Int) : binOp .eql t (.int .u64 (mAnd (mShr s q) 1 : Int)) (.int .u64 1) = pure (.bool (mBit s q)) := by
 rw [binOp_eql]
 congr 2
 unfold mAnd mShr mBit
 rw [Nat.testBit, Nat.and_comm]
 generalize s >>> q.toNat = z
 rw [Nat.and_comm, Nat.and_one_is_mod, Bool.eq_iff_iff]
 simp
 omega
theorem bop_ne0 (t : TypeId) (a b : Nat) : binOp .neq t (.int .u64 (mAnd a b : Int)) (.int .u64 0) = pure (.bool (mHit a b)) := by
 rw [binOp_neq]
 congr 2
 unfold mHit
 rw [Bool.eq_iff_iff]
 simp
attribute [go_sem high] bop_shr bop_shl bop_or bop_and bop_and1 bop_bit bop_ne0 U64.or U64.pow U64.shr U64.one U64.zero U64.and
theorem mBit_or (a b : Nat) (q : Int) : mBit (mOr a b) q = (mBit a q || mBit b q) := Nat.testBit_or ..
theorem mBit_pow (p q : Int) (hp : 0 ≤ p) (hq : 0 ≤ q) : mBit (mPow p) q = decide (p = q) := by
 unfold mBit mPow
 rw [Nat.testBit_two_pow]
 exact decide_eq_decide.2 (by omega)
theorem mBit_zero (q : Int) : mBit 0 q = false := Nat.zero_testBit ..
theorem mBit_and (a b : Nat) (q : Int) : mBit (mAnd a b) q = (mBit a q && mBit b q) := Nat.testBit_and ..
theorem mHit_iff {a b : Nat} : mHit a b = true ↔ ∃ q : Nat, mBit a q = true ∧ mBit b q = true := by
 unfold mHit
 rw [bne_iff_ne]
 constructor
 ·intro h
  have : ∃ q, (a &&& b).testBit q = true := Classical.byContradiction fun hn => h (Nat.eq_of_testBit_eq fun i => by
   rw [Nat.zero_testBit]
   exact (Bool.not_eq_true _).mp fun hh => hn ⟨i, hh⟩)
  obtain ⟨q, hq⟩ := this
  rw [Nat.testBit_and, Bool.and_eq_true] at hq
  exact ⟨q, by simpa [mBit] using hq⟩
 ·rintro ⟨q, h1, h2⟩ h0
  have : mBit (mAnd a b) q = true := by rw [mBit_and, h1, h2]; rfl
  rw [h0, mBit_zero] at this
  cases this
end Go.Proofs.YtbjdgepfhhafjaaDoor
namespace Go.Proofs.YtbjdgepfhhafjaaDoor
open Go.RowKit
def setB (m : Nat) (q : Int) : Nat := mOr m (mPow q)
def brM (s t : Nat) (l : List Branch) : Nat := l.foldl (fun m e => if mBit s e.first && mBit t e.second then setB m e.to else m) 0
def accM (l : List Int) : Nat := l.foldl setB 0
def inS (q : Int) : Bool := inR q 0 64
theorem U64.setB {m : Nat} {q : Int} (h : U64 m) (hq : q < 64) : U64 (setB m q) := h.or (U64.pow hq)
theorem foldl_take {A B : Type} (f : A → B → A) (a : A) (l : List B) (k : Nat) (x : B) (h : l[k]? = some x) : (l.take (k + 1)).foldl f a = f ((l.take k).foldl f a) x := by
 rw [List.take_add_one, h]; simp
theorem foldl_all {A B : Type} (f : A → B → A) (a : A) (l : List B) (k : Nat) (h : l.length ≤ k) : (l.take k).foldl f a = l.foldl f a := by rw [List.take_of_length_le h]
def brCells (b : Branch) : List Value := [.int .i64 b.letter, .int .i64 b.first, .int .i64 b.second, .int .i64 b.to]
theorem flat4 (l : List Branch) : ∀ (k j : Nat) (b : Branch), l[k]? = some b → j < 4 → (l.flatMap brCells)[k * 4 + j]? = some (encBr b j) := by
 induction l with
 | nil => intro k j b h; simp at h
 | cons c l ih =>
  intro k j b h hj
  rw [List.flatMap_cons]
  cases k with
  | zero =>
   simp at h; subst h
   rw [List.getElem?_append_left (by simp [brCells]; omega)]
   match j, hj with
   | 0, _ => simp [brCells, encBr]
   | 1, _ => simp [brCells, encBr]
   | 2, _ => simp [brCells, encBr]
   | 3, _ => simp [brCells, encBr]
  | succ k =>
   simp at h
   rw [List.getElem?_append_right (by simp [brCells]; omega)]
   have := ih k j b h hj
   rw [show (k + 1) * 4 + j - (brCells c).length = k * 4 + j from by simp [brCells]; omega]
   exact this
theorem own_get4 {w : World} {base n : Nat} {e : TypeId} {v : Value} {r : List Branch} (h : w.ownsRow base e 4 v n (r.flatMap brCells)) (hn : r.length = n) {k : Nat} {b : Branch} (hk : r[k]? = some b) :
  ∃ g cap, v = .slice (some ⟨g, 0, none⟩) n cap ∧ ∀ j, j < 4 → w.cell? ⟨g, k * 4 + j, none⟩ = some (encBr b j) := by
 obtain ⟨hl, hx⟩ := h
 have hkl := lt_of_get hk
 rcases hx with ⟨_, rfl⟩ | ⟨g, cap, cur, rfl, hb, hh, hc, hm, hs, ht⟩
 ·omega
 ·refine ⟨g, cap, rfl, fun j hj => ?_⟩
  rw [cell_of_row w g _ cur e (0, 0) hh, ← flat4 r k j b hk hj, ← ht, List.getElem?_take]
  have : k * 4 + j < n * 4 := by omega
  simp [this]
theorem det1_any (x L c g gc : Nat) (m : Nat) (w : World) (hc : w.cell? ⟨gc, 0, none⟩ = some (.slice (some ⟨g, 0, none⟩) L c)) (hx : x < L) (hm : w.cell? ⟨g, x, none⟩ = some (.int .u64 (m : Int))) :
  Calls Tryd.prog 50 #[.int .i64 (x : Int), .pointer (some ⟨gc, 0, none⟩)] w fun e w' => e = .returned (.int .u64 (m : Int)) ∧ w = w' := by
 go_enter Tryd.func50, Tryd.ntmps50
 go_wp2
 go_ret
 exact ⟨rfl, rfl⟩
theorem det3_any (s m gc : Nat) (w : World) (hs : U64 s) (hm : U64 m) (hc : w.cell? ⟨gc, 0, none⟩ = some (.int .u64 (m : Int))) :
  Calls Tryd.prog 52 #[.int .u64 (s : Int), .pointer (some ⟨gc, 0, none⟩)] w fun e w' => e = .returned (.bool (mHit s m)) ∧ w = w' := by
 go_enter Tryd.func52, Tryd.ntmps52
 go_wp2
 go_ret
 exact ⟨rfl, rfl⟩
theorem det2_any (x L c g gc s t base : Nat) (u : Value) (r : List Branch) (w : World) (hc : w.cell? ⟨gc, 0, none⟩ = some (.slice (some ⟨g, 0, none⟩) L c)) (hx : x < L) (hu : w.cell? ⟨g, x, none⟩ = some u)
  (hr : w.ownsRow base 73 4 u r.length (r.flatMap brCells)) (hl : r.length ≤ 1000000) (hs : U64 s) (ht : U64 t) (hb : r.all (fun b => inS b.first && inS b.second && inS b.to) = true) :
  Calls Tryd.prog 51 #[.int .i64 (x : Int), .int .u64 (s : Int), .int .u64 (t : Int), .pointer (some ⟨gc, 0, none⟩)] w fun e w' => e = .returned (.int .u64 (brM s t r : Int)) ∧ Below w.heap.size w w' := by
 obtain ⟨A, cu, rfl⟩ := slice_of_own hr
 have HB := hide hb
 clear hb
 go_enter Tryd.func51, Tryd.ntmps51
 go_wp2
 go_loopw [8, 16] (fun m i wr => ∃ (k m' : Nat), k ≤ r.length ∧ i = .int .i64 (k : Int) ∧ m = .int .u64 (m' : Int) ∧ U64 m' ∧ Hid (m' = (r.take k).foldl (fun m e => if mBit s e.first && mBit t e.second then setB m e.to else m) 0) ∧ Below w.heap.size w wr) (fun _ i _ => r.length - (intOf i).toNat)
 case atStart => exact ⟨0, 0, Nat.zero_le _, rfl, rfl, U64.zero, rfl, Below.refl _ _⟩
 case round =>
  obtain ⟨k, m', hk, rfl, rfl, hm', hmm, hbw⟩ := hrel
  by_cases hlt : k < r.length
  ·obtain ⟨b, hkb⟩ : ∃ b, r[k]? = some b := ⟨_, List.getElem?_eq_getElem hlt⟩
   obtain ⟨gr, cap, hv, hcells⟩ := own_get4 hr rfl hkb
   injection hv with hv _ _
   subst hv
   have hgr : gr < w.heap.size := own_lt (k := gr) hr rfl
   have hcc := fun j hj => (hbw.cell (p := ⟨gr, k * 4 + j, none⟩) hgr).trans (hcells j hj)
   have h0 := hcc 0 (by omega)
   have h1 := hcc 1 (by omega)
   have h2 := hcc 2 (by omega)
   have h3 := hcc 3 (by omega)
   simp only [encBr, Nat.add_zero] at h0 h1 h2 h3
   have hin := List.all_eq_true.1 HB.out b (List.mem_of_getElem? hkb)
   simp only [inS, inR, Bool.and_eq_true, decide_eq_true_eq] at hin
   have hf := foldl_take (fun m e => if mBit s e.first && mBit t e.second then setB m e.to else m) 0 r k b hkb
   have HF := hide hf
   have hsz := hbw.size
   clear hcc hcells hkb hf
   cases hb1 : mBit s b.first <;> cases hb2 : mBit t b.second
   all_goals
    have HB1 := hide hb1
    have HB2 := hide hb2
    go_wp2_with fail
    refine ⟨⟨k + 1, _, by omega, by go_num, rfl, ?_, ?_, hbw.alloc (by omega) _⟩, by simp [intOf]; omega⟩
    ·first | exact hm' | exact hm'.setB hin.2.2
    ·show _ = _
     rw [HF.out, HB1.out, HB2.out, ← hmm.out]
     rfl
  ·have HE := hide (foldl_all (fun m e => if mBit s e.first && mBit t e.second then setB m e.to else m) 0 r k (by omega))
   rw [HE.out] at hmm
   go_wp2_with fail
   go_ret
   refine ⟨?_, hbw⟩
   rw [hmm.out]
   rfl
end Go.Proofs.YtbjdgepfhhafjaaDoor
namespace Go.Proofs.YtbjdgepfhhafjaaDoor
open Go.RowKit
def leafM (l : List Leaf) (x : Nat) : Nat := l.foldl (fun m e => if e.letter = (x : Int) then setB m e.to else m) 0
def byL (l : List Branch) (x : Nat) : List Branch := l.filter (fun b => b.letter = (x : Int))
def TA.leafS (a : TA) (x : Nat) : Nat := leafM a.leaves x
def TA.brS (a : TA) (x : Nat) (s t : Nat) : Nat := brM s t (byL a.branches x)
def TA.accS (a : TA) (s : Nat) : Bool := mHit s (accM a.accept)
structure ByT (w : World) (base gy : Nat) (us : List Value) (rows : List (List Branch)) : Prop where
 blk : Blk w gy 38 us.toArray
 len : us.length = rows.length
 row : ∀ (i : Nat) (u : Value) (r : List Branch), us[i]? = some u → rows[i]? = some r → w.ownsRow base 73 4 u r.length (r.flatMap brCells)
 sep : ∀ (i j : Nat) (u u' : Value) (g : Nat), us[i]? = some u → us[j]? = some u' → u.ownBlock = some g → u'.ownBlock = some g → i = j
theorem ByT.new {w : World} {base gy L : Nat} (h : Blk w gy 38 (Array.replicate L (.slice none 0 0))) : ByT w base gy (List.replicate L (.slice none 0 0)) (List.replicate L []) := by
 refine ⟨by simpa using h, by simp, fun i u r hu hr => ?_, fun i j u u' g hu _ hg _ => ?_⟩
 ·rw [List.getElem?_replicate] at hu hr
  split at hu <;> simp_all
  subst hu hr
  exact own_nil
 ·rw [List.getElem?_replicate] at hu
  split at hu <;> simp_all
  subst hu
  simp [Value.ownBlock] at hg
theorem ByT.keep {w w' : World} {X : Nat → Prop} {base gy : Nat} {us : List Value} {rows : List (List Branch)} (h : ByT w base gy us rows) (hk : Kept w w' X) (hy : ¬ X gy) (h59 : ∀ g cs, X g → ¬ Blk w g 73 cs) : ByT w' base gy us rows :=
 ⟨h.blk.kept hk hy, h.len, fun i u r hu hr => own_ty hk (h.row i u r hu hr) h59, h.sep⟩
theorem ByT.add {w w1 : World} {base gy i : Nat} {us : List Value} {rows : List (List Branch)} {ui ui' : Value} {r : List Branch} {b : Branch} (h : ByT w base gy us rows) (hu : us[i]? = some ui) (hr : rows[i]? = some r)
  (hk : Kept w w1 (fun k => ui.ownBlock = some k)) (ho : w1.ownsRow base 73 4 ui' (r.length + 1) (r.flatMap brCells ++ brCells b)) (hm : Moved w ui ui') :
  ByT (w1.setCell ⟨gy, i, none⟩ ui') base gy (us.set i ui') (rows.set i (r ++ [b])) := by
 have hi := lt_of_get hr
 have hui := h.row i ui r hu hr
 have hgy : Blk w1 gy 38 us.toArray := h.blk.kept hk fun e => own_blk_ne hui h.blk (by decide) e
 have hks : Kept w1 (w1.setCell ⟨gy, i, none⟩ ui') (fun k => k = gy) := Kept.setCell (Kept.refl w1 (fun k => k = gy)) (p := ⟨gy, i, none⟩) (fun _ => rfl) _
 have h59 : ∀ g cs, g = gy → ¬ Blk w1 g 73 cs := fun g cs e hb => by subst e; exact hgy.ne_ hb (by decide) rfl
 refine ⟨by have := hgy.set_ i ui'; simpa using this, by simp [h.len], fun k u q hu' hq => ?_, fun k j u u' g hk1 hj1 hg hg' => ?_⟩
 ·by_cases hki : k = i
  ·subst hki
   rw [List.getElem?_set_self (by rw [h.len]; exact hi)] at hu'
   rw [List.getElem?_set_self hi] at hq
   injection hu' with hu'
   injection hq with hq
   subst hu' hq
   have := own_ty hks ho h59
   simpa using this
  ·rw [List.getElem?_set_ne (fun e => hki e.symm)] at hu' hq
   exact own_ty hks (hk.ownsRow (h.row k u q hu' hq) fun g hg hx => hki (h.sep k i u ui g hu' hu hg hx)) h59
 ·have aux : ∀ (k : Nat) (u : Value), (us.set i ui')[k]? = some u → (k = i ∧ u = ui') ∨ (k ≠ i ∧ us[k]? = some u) := fun k u hx => by
   by_cases hki : k = i
   ·subst hki
    rw [List.getElem?_set_self (by rw [h.len]; exact hi)] at hx
    injection hx with hx
    exact .inl ⟨rfl, hx.symm⟩
   ·rw [List.getElem?_set_ne (fun e => hki e.symm)] at hx
    exact .inr ⟨hki, hx⟩
  have old : ∀ (k : Nat) (u : Value), us[k]? = some u → u.ownBlock = some g → g < w.heap.size := fun k u hx hg => by
   obtain ⟨q, hq⟩ : ∃ q, rows[k]? = some q := ⟨_, List.getElem?_eq_getElem (by rw [← h.len]; exact lt_of_get hx)⟩
   exact own_lt (h.row k u q hx hq) hg
  have new : ∀ (k : Nat) (u : Value), k ≠ i → us[k]? = some u → u.ownBlock = some g → ui'.ownBlock = some g → False := fun k u hki hx hg hg' => by
   rcases hm with hm | ⟨g1, hm, hg1⟩
   ·exact hki (h.sep k i u ui g hx hu hg (by rw [← hm]; exact hg'))
   ·rw [hm] at hg'
    injection hg' with hg'
    have := old k u hx hg
    omega
  rcases aux k u hk1 with ⟨rfl, rfl⟩ | ⟨hki, hx⟩
  ·rcases aux j u' hj1 with ⟨rfl, rfl⟩ | ⟨hji, hy⟩
   ·rfl
   ·exact (new j u' hji hy hg' hg).elim
  ·rcases aux j u' hj1 with ⟨rfl, rfl⟩ | ⟨hji, hy⟩
   ·exact (new k u hki hx hg hg').elim
   ·exact h.sep k j u u' g hx hy hg hg'
def byTo (L : Nat) (l : List Branch) : List (List Branch) := (List.range L).map fun x => byL l x
theorem byTo_nil (L : Nat) : byTo L [] = List.replicate L [] := by
 unfold byTo byL
 apply List.ext_getElem?
 intro i
 rw [List.getElem?_replicate, List.getElem?_map]
 by_cases h : i < L <;> simp [h]
theorem byTo_get {L x : Nat} (l : List Branch) (hx : x < L) : (byTo L l)[x]? = some (byL l x) := by
 unfold byTo
 simp [hx]
theorem byTo_snoc (L : Nat) (l : List Branch) (b : Branch) (x : Nat) (hb : b.letter = (x : Int)) (hx : x < L) : byTo L (l ++ [b]) = (byTo L l).set x (byL l x ++ [b]) := by
 apply List.ext_getElem?
 intro i
 unfold byTo
 by_cases h : i < L
 ·by_cases hi : x = i
  ·subst hi
   rw [List.getElem?_set_self (by simp [hx])]
   simp [h, byL, hb]
  ·rw [List.getElem?_set_ne hi]
   have : b.letter ≠ (i : Int) := by omega
   simp [h, byL, this]
 ·rw [List.getElem?_eq_none (by simp; omega), List.getElem?_eq_none (by simp; omega)]
def leafTo (L : Nat) (l : List Leaf) : List Nat := (List.range L).map fun x => leafM l x
theorem leafTo_nil (L : Nat) : leafTo L [] = List.replicate L 0 := by
 unfold leafTo leafM
 apply List.ext_getElem?
 intro i
 rw [List.getElem?_replicate]
 by_cases h : i < L <;> simp [h]
theorem leafTo_get {L x : Nat} (l : List Leaf) (hx : x < L) : (leafTo L l)[x]? = some (leafM l x) := by
 unfold leafTo
 simp [hx]
theorem leafTo_snoc (L : Nat) (l : List Leaf) (b : Leaf) (x : Nat) (hb : b.letter = (x : Int)) (hx : x < L) : leafTo L (l ++ [b]) = (leafTo L l).set x (setB (leafM l x) b.to) := by
 apply List.ext_getElem?
 intro i
 unfold leafTo
 by_cases h : i < L
 ·by_cases hi : x = i
  ·subst hi
   rw [List.getElem?_set_self (by simp [hx])]
   simp [h, leafM, hb]
  ·rw [List.getElem?_set_ne hi]
   have : b.letter ≠ (i : Int) := by omega
   simp [h, leafM, this]
 ·rw [List.getElem?_eq_none (by simp; omega), List.getElem?_eq_none (by simp; omega)]
theorem U64.fold {A : Type} {f : A → Int} {c : A → Bool} : ∀ (l : List A) {m : Nat}, U64 m → (∀ x ∈ l, f x < 64) → U64 (l.foldl (fun m e => if c e then Go.Proofs.YtbjdgepfhhafjaaDoor.setB m (f e) else m) m)
 | [], _, h, _ => h
 | x :: l, m, h, hl => by
  simp only [List.foldl_cons]
  refine U64.fold l ?_ fun y hy => hl y (List.mem_cons_of_mem _ hy)
  split
  ·exact h.setB (hl x List.mem_cons_self)
  ·exact h
theorem U64.accM {l : List Int} (hl : ∀ x ∈ l, x < 64) : U64 (accM l) := by
 have := U64.fold (f := fun x => x) (c := fun _ => true) l U64.zero hl
 unfold Go.Proofs.YtbjdgepfhhafjaaDoor.accM
 simpa using this
theorem U64.leafM {l : List Leaf} {x : Nat} (hl : ∀ e ∈ l, e.to < 64) : U64 (leafM l x) := by
 have := U64.fold (f := fun e => e.to) (c := fun e => decide (e.letter = (x : Int))) l U64.zero hl
 simpa [Go.Proofs.YtbjdgepfhhafjaaDoor.leafM] using this
theorem U64.brM {l : List Branch} {s t : Nat} (hl : ∀ e ∈ l, e.to < 64) : U64 (brM s t l) := by
 unfold Go.Proofs.YtbjdgepfhhafjaaDoor.brM
 exact U64.fold (f := fun e => e.to) (c := fun e => mBit s e.first && mBit t e.second) l U64.zero hl
theorem two_boxes (w : World) (cs : Array Value) (v : Value) : ∃ w1, (w.alloc (.cells cs 40)).alloc (.cells #[v] 92) = w1 ∧ Below w.heap.size w w1 ∧ Blk w1 w.heap.size 40 cs ∧ Blk w1 (w.heap.size + 1) 92 #[v] := by
 have h1 := Blk.new w 40 cs
 have h2 := Blk.new (w.alloc (.cells cs 40)) 92 #[v]
 simp at h2
 exact ⟨_, rfl, ((Below.refl _ _).alloc (Nat.le_refl _) _).alloc (by simp) _, h1.kept ((Kept.refl _ (fun _ => False)).alloc _) id, h2⟩
theorem mk_u64 (w : World) (n : Nat) (hn : n ≤ 100000) :
  ∃ g w1, (Instr.makeSlice 93 (.int .i64 n) (.int .i64 n)).run Tryd.prog w = .ok (.slice (some ⟨g, 0, none⟩) n n) w1 ∧ Blk w1 g 92 (Array.replicate n (.int .u64 0)) ∧ Below w.heap.size w w1 ∧ w.heap.size ≤ g :=
 mk_facts Tryd.underlying93 info70 rfl (by omega) w n hn
theorem info24 : (Tryd.prog.info? 38).map (fun i => (i.zero, i.size, i.bytes)) = some (some (.slice none 0 0), 1, 24) := by kernel_rfl
theorem mk_by (w : World) (n : Nat) (hn : n ≤ 100000) :
  ∃ g w1, (Instr.makeSlice 94 (.int .i64 n) (.int .i64 n)).run Tryd.prog w = .ok (.slice (some ⟨g, 0, none⟩) n n) w1 ∧ Blk w1 g 38 (Array.replicate n (.slice none 0 0)) ∧ Below w.heap.size w w1 ∧ w.heap.size ≤ g :=
 mk_facts Tryd.underlying94 info24 rfl (by omega) w n hn
theorem info59 : (Tryd.prog.info? 73).map (fun i => (i.zero, i.size, i.bytes)) = some (some (.agg #[.int .i64 0, .int .i64 0, .int .i64 0, .int .i64 0]), 4, 32) := by kernel_rfl
theorem row24 : RowTy Tryd.prog 38 73 4 := rowTy_of Tryd.underlying38 info59 rfl (by omega) (by omega)
theorem box_blk (w : World) (cs : Array Value) (t : TypeId) : ∃ w1, w.alloc (.cells cs t) = w1 ∧ Below w.heap.size w w1 ∧ Blk w1 w.heap.size t cs ∧ Kept w w1 (fun _ => False) :=
 ⟨_, rfl, (Below.refl _ _).alloc (Nat.le_refl _) _, Blk.new _ _ _, (Kept.refl _ _).alloc _⟩
theorem Blk.below {w w' : World} {g : Nat} {t : TypeId} {cs : Array Value} (h : Blk w g t cs) (hb : Below w.heap.size w w') : Blk w' g t cs := h.kept (Kept.of_below hb fun _ => False) id
theorem take_snoc {D : Type} {l : List D} {k : Nat} {x : D} (h : l[k]? = some x) : l.take (k + 1) = l.take k ++ [x] := by rw [List.take_add_one, h]; rfl
theorem filter_le {D : Type} (p : D → Bool) (l : List D) : (l.filter p).length ≤ l.length := List.length_filter_le p l
structure DetS (w wr : World) (g8 gl L m : Nat) (cs : Array Value) (lm : List Nat) : Prop where
 below : Below w.heap.size w wr
 box : Blk wr w.heap.size 40 cs
 acc : Blk wr (w.heap.size + 1) 92 #[.int .u64 (m : Int)]
 lvar : Blk wr g8 93 #[.slice (some ⟨gl, 0, none⟩) L L]
 larr : Blk wr gl 92 (lm.map encU).toArray
theorem DetS.kept {w wr w' : World} {X : Nat → Prop} {g8 gl L m : Nat} {cs : Array Value} {lm : List Nat} (h : DetS w wr g8 gl L m cs lm) (hk : Kept wr w' X) (hX : ∀ k, X k → w.heap.size ≤ k ∧ k ≠ w.heap.size ∧ k ≠ w.heap.size + 1 ∧ k ≠ g8 ∧ k ≠ gl) : DetS w w' g8 gl L m cs lm :=
 ⟨h.below.trans (hk.below h.below.size fun b hb hx => by have := (hX b hx).1; omega), h.box.kept hk fun hx => (hX _ hx).2.1 rfl, h.acc.kept hk fun hx => (hX _ hx).2.2.1 rfl, h.lvar.kept hk fun hx => (hX _ hx).2.2.2.1 rfl, h.larr.kept hk fun hx => (hX _ hx).2.2.2.2 rfl⟩
theorem DetS.same {w wr w' : World} {g8 gl L m : Nat} {cs : Array Value} {lm : List Nat} (h : DetS w wr g8 gl L m cs lm) (hk : Kept wr w' (fun _ => False)) : DetS w w' g8 gl L m cs lm := h.kept hk fun _ hx => hx.elim
theorem DetS.store {w wr : World} {g8 gl L m : Nat} {cs : Array Value} {lm : List Nat} (h : DetS w wr g8 gl L m cs lm) (hgl : w.heap.size + 1 < gl) (x z : Nat) : DetS w (wr.setCell ⟨gl, x, none⟩ (.int .u64 (z : Int))) g8 gl L m cs (lm.set x z) := by
 have hk := (Kept.refl wr (fun k => k = gl)).setCell (p := ⟨gl, x, none⟩) (fun _ => rfl) (.int .u64 (z : Int))
 refine ⟨h.below.setCell (by simp; omega) _, h.box.kept hk (by omega), h.acc.kept hk (by omega), h.lvar.kept hk (fun e => h.lvar.ne_ h.larr (by decide) e), ?_⟩
 have := h.larr.set_ x (.int .u64 (z : Int))
 simpa [encU] using this
theorem own_weak {w : World} {base base' size n : Nat} {e : TypeId} {v : Value} {xs : List Value} (h : w.ownsRow base e size v n xs) (hb : base' ≤ base) : w.ownsRow base' e size v n xs := by
 refine ⟨h.1, ?_⟩
 rcases h.2 with hx | ⟨g, cap, cur, rfl, h1, h2⟩
 ·exact .inl hx
 ·exact .inr ⟨g, cap, cur, rfl, by omega, h2⟩
theorem RowRow.weak {w : World} {base base' : Nat} {v : Value} {r : List (List Nat)} (h : RowRow w base v r) (hb : base' ≤ base) : RowRow w base' v r := by
 obtain ⟨us, h1, h2, h3⟩ := h
 exact ⟨us, h1, own_weak h2 hb, fun i u r hu hr => own_weak (h3 i u r hu hr) hb⟩
theorem Tab.weak {w : World} {base base' : Nat} {v : Value} {t : List (List (List Nat))} (h : Tab w base v t) (hb : base' ≤ base) : Tab w base' v t := by
 obtain ⟨us, h1, h2, h3, h4⟩ := h
 exact ⟨us, h1, own_weak h2 hb, fun i u r hu hr => (h3 i u r hu hr).weak hb, h4⟩
theorem Mach.weak {w : World} {base base' gM L : Nat} {ac : List Bool} {lf : List Nat} {t : List (List (List Nat))} (h : Mach w base gM L ac lf t) (hb : base' ≤ base) : Mach w base' gM L ac lf t := by
 obtain ⟨v1, v2, v3, h1, h2, h3, h4⟩ := h
 exact ⟨v1, v2, v3, h1, own_weak h2 hb, own_weak h3 hb, h4.weak hb⟩
def Built (w' : World) (base L : Nat) (leaf : Nat → Nat) (br : Nat → Nat → Nat → Nat) (acc : Nat → Bool) (v : Value) : Prop :=
 ∃ l : List Nat, l.Nodup ∧ (∀ s ∈ l, Reach L leaf br s) ∧
  ((v = .pointer none ∧ 64 < l.length) ∨ ∃ gM lf t, v = .pointer (some ⟨gM, 0, none⟩) ∧ base ≤ gM ∧ Mach w' base gM L (l.map acc) lf t ∧ lf.length = L ∧ LeafOK leaf l lf ∧
   TabOK L br l (fun _ => l.length) t ∧ t.length = l.length ∧ l.length ≤ 64)
theorem det_clos {w wr wb : World} {g8 gl g11 gy L m : Nat} {cs : Array Value} {S : Int} {lv : List Leaf} {br : List Branch} {us : List Value} (hD : DetS w wr g8 gl L m cs (leafTo L lv)) (hB : Blk wr g11 94 #[.slice (some ⟨gy, 0, none⟩) L L]) (hY : ByT wr w.heap.size gy us (byTo L br)) (hm : U64 m)
  (hvL : ∀ x ∈ lv, okLeaf L S x = true) (hvB : ∀ x ∈ br, okBranch L S x = true) (hS : S ≤ 64) (hbig : br.length ≤ 900000) (hkb : Kept wr wb (fun _ => False)) :
  ClosU wb wr.heap.size L (.pointer (some ⟨g8, 0, none⟩)) (.pointer (some ⟨g11, 0, none⟩)) (.pointer (some ⟨w.heap.size + 1, 0, none⟩)) (leafM lv) (fun x s t => brM s t (byL br x)) (fun s => mHit s m) U64 := by
 have hx1 := hD.lvar.lt
 have hx2 := hD.larr.lt
 have hx3 := hD.acc.lt
 have hx4 := hB.lt
 have hx5 := hY.blk.lt
 have keep : ∀ w', Kept wb w' (fun k => k = wr.heap.size) → Kept wr w' (fun _ => False) := fun w' hk => hkb.trans hk fun b hb e => by omega
 refine ⟨fun w' hk x hx => ?_, fun w' hk x s t hx hs ht => ?_, fun w' hk s hs => ?_, fun x hx => ?_, fun x s t hx hs ht => ?_⟩
 ·have hD' := hD.same (keep w' hk)
  refine Calls.ret_eq (v := .int .u64 (leafM lv x : Int)) ((det1_any x L L gl g8 (leafM lv x) w' (hD'.lvar.cell 0) hx ?_).mono fun e w'' ⟨he, hw⟩ => ⟨he, rfl, hw ▸ Below.refl _ _⟩)
  rw [hD'.larr.cell]
  have := leafTo_get lv hx
  simp [this, encU]
 ·have hY' := hY.keep (keep w' hk) id fun _ _ h => h.elim
  have hB' := hB.kept (keep w' hk) id
  have hrx := byTo_get (L := L) br hx
  obtain ⟨ui, hui⟩ : ∃ ui, us[x]? = some ui := ⟨_, List.getElem?_eq_getElem (by rw [hY.len]; exact lt_of_get hrx)⟩
  have hrow := hY'.row x ui _ hui hrx
  have hle : (byL br x).length ≤ 900000 := by
   have h1 := filter_le (fun b : Branch => decide (b.letter = (x : Int))) br
   unfold byL
   omega
  refine Calls.ret_eq (v := .int .u64 (brM s t (byL br x) : Int)) ((det2_any x L L gy g11 s t w.heap.size ui (byL br x) w' (hB'.cell 0) hx ?_ hrow (by omega) hs ht ?_).mono fun e w'' ⟨he, hw⟩ => ⟨he, rfl, hw⟩)
  ·rw [hY'.blk.cell]
   simpa using hui
  ·rw [List.all_eq_true]
   intro b hb
   have h1 := hvB b (List.mem_filter.1 hb).1
   simp only [okBranch, inR, Bool.and_eq_true, decide_eq_true_eq] at h1
   simp only [inS, inR, Bool.and_eq_true, decide_eq_true_eq]
   omega
 ·have hD' := hD.same (keep w' hk)
  exact Calls.ret_eq (v := .bool (mHit s m)) ((det3_any s m (w.heap.size + 1) w' hs hm (hD'.acc.cell 0)).mono fun e w'' ⟨he, hw⟩ => ⟨he, rfl, hw ▸ Below.refl _ _⟩)
 ·exact U64.leafM fun e he => by
   have h1 := hvL e he
   simp only [okLeaf, inR, Bool.and_eq_true, decide_eq_true_eq] at h1
   omega
 ·exact U64.brM fun e he => by
   have h1 := hvB e (List.mem_filter.1 he).1
   simp only [okBranch, inR, Bool.and_eq_true, decide_eq_true_eq] at h1
   omega
theorem determine_any (v : Value) (a : TA) (w : World) (h : IsTA w w.heap.size v a) (hv : a.valid = true) (hbig : a.branches.length ≤ 900000) :
  Calls Tryd.prog 35 #[v, .int .i64 64] w (Ret fun v w' => Below w.heap.size w w' ∧ Built w' w.heap.size a.letters.toNat a.leafS a.brS a.accS v) := by
 obtain ⟨A1, c1, A2, c2, A3, c3, rfl, h1, h2, h3⟩ := h
 obtain ⟨L, S, acc, lv, br⟩ := a
 simp only [TA.valid, TA.head, Bool.and_eq_true, decide_eq_true_eq, List.all_eq_true] at hv
 dsimp only at *
 obtain ⟨⟨⟨⟨⟨⟨hL1, hL8⟩, hS0⟩, hS64⟩, hvA⟩, hvL⟩, hvB⟩ := hv
 obtain ⟨L, rfl⟩ := Int.eq_ofNat_of_zero_le (by omega : 0 ≤ L)
 have hn1 := h1.1
 have hn2 := h2.1
 have hn3 := h3.1
 have HvA := hide hvA
 have HvL := hide hvL
 have HvB := hide hvB
 clear hvA hvL hvB
 go_enter Tryd.func35, Tryd.ntmps35
 go_wp2_with fail
 obtain ⟨w1, hw1, hb1, hB1, hA1⟩ := two_boxes w #[.int .i64 L, .int .i64 S, .slice A1 acc.length c1, .slice A2 lv.length c2, .slice A3 br.length c3] (.int .u64 0)
 rw [hw1]
 clear hw1
 go_loopw [18] (fun i wr => ∃ (k m : Nat), k ≤ acc.length ∧ i = .int .i64 (k : Int) ∧ U64 m ∧ Hid (m = (acc.take k).foldl setB 0) ∧ Below w.heap.size w wr ∧ Blk wr w.heap.size 40 #[.int .i64 L, .int .i64 S, .slice A1 acc.length c1, .slice A2 lv.length c2, .slice A3 br.length c3] ∧
  Blk wr (w.heap.size + 1) 92 #[.int .u64 (m : Int)]) (fun i _ => acc.length - (intOf i).toNat)
 case atStart => exact ⟨0, 0, Nat.zero_le _, rfl, U64.zero, rfl, hb1, hB1, hA1⟩
 case round =>
  obtain ⟨k, m, hk, rfl, hm, hmm, hbw, hBw, hAw⟩ := hrel
  have hcA := hAw.cell 0
  have hfA := hAw.frozen 0
  by_cases hlt : k < acc.length
  ·obtain ⟨b, off, x, rfl, hb, hx, hc⟩ := h1.at hlt
   have hc0 := (hbw.cell (by exact hb)).trans (hc 0 (by omega))
   simp only [Nat.mul_one, Nat.add_zero, encI] at hc0
   have hin := HvA.out x (List.mem_of_getElem? hx)
   simp only [inR, Bool.and_eq_true, decide_eq_true_eq] at hin
   obtain ⟨hin0, hin1⟩ := hin
   have hin2 : x < 64 := by omega
   have hf := hide (foldl_take setB 0 acc k x hx)
   clear hc hx
   go_wp2_with fail
   refine Reg.cN [0, 0, 2, 7, 15] ?_
   intro Qf hQf
   go_wp2_with fail
   refine ⟨rfl, ?_⟩
   go_wp2_with fail
   refine ⟨⟨k + 1, mOr m (mPow x), by omega, by go_num, hm.or (U64.pow hin2), ?_, (hbw.setCell (by simp) _).drew, ?_, hAw.set_ 0 _⟩, by simp [intOf]; omega⟩
   ·show _ = _
    rw [hf.out, ← hmm.out]
    rfl
   ·exact hBw.kept ((Kept.refl wr (fun k => k = w.heap.size + 1)).setCell (p := ⟨w.heap.size + 1, 0, none⟩) (fun _ => rfl) _).drew (by omega)
  ·have HE := hide (foldl_all setB 0 acc k (by omega))
   rw [HE.out] at hmm
   have hcB := hBw.cell
   have hsz1 := hAw.lt
   obtain ⟨gl, w2, hmk, hMl, hb2, hgl⟩ := mk_u64 wr L (by omega)
   have hsz2 := hMl.lt
   have hcB2 := ((hBw.below hb2).kept ((Kept.refl w2 (fun _ => False)).alloc (.cells #[.slice (some ⟨gl, 0, none⟩) L L] 93)) id).cell
   clear h1 hB1 hA1 hb1 hn1
   go_wp2_with fail
   obtain ⟨w3, hw3, hb3, hB3, hk3⟩ := box_blk w2 #[.slice (some ⟨gl, 0, none⟩) L L] 93
   rw [hw3]
   clear hw3
   have hD0 : DetS w w3 w2.heap.size gl L m #[.int .i64 L, .int .i64 S, .slice A1 acc.length c1, .slice A2 lv.length c2, .slice A3 br.length c3] (leafTo L []) :=
    ⟨hbw.trans ((hb2.trans (hb3.mono hb2.size)).mono hbw.size), (hBw.below hb2).below hb3, (hAw.below hb2).below hb3, hB3, by
     have := hMl.below hb3
     rw [leafTo_nil]
     simpa [encU] using this⟩
   have hglb : w.heap.size + 1 < gl := by omega
   have hg8b : w.heap.size + 1 < w2.heap.size := by omega
   generalize w2.heap.size = g8 at *
   clear hmk hMl hb2 hcB2 hb3 hk3 hcB hcA hfA hBw hAw hbw hB3 hgl hsz2 hsz1
   have hmm2 := hmm
   clear hmm HE
   go_loopw [33] (fun i wr => ∃ (k : Nat), k ≤ lv.length ∧ i = .int .i64 (k : Int) ∧ DetS w wr g8 gl L m #[.int .i64 L, .int .i64 S, .slice A1 acc.length c1, .slice A2 lv.length c2, .slice A3 br.length c3] (leafTo L (lv.take k))) (fun i _ => lv.length - (intOf i).toNat)
   case atStart => exact ⟨0, Nat.zero_le _, rfl, hD0⟩
   case round =>
    obtain ⟨k2, hk2, rfl, hD⟩ := hrel
    have hcL := hD.lvar.cell 0
    have hsz1 := hD.lvar.lt
    have hsz2 := hD.larr.lt
    by_cases hlt2 : k2 < lv.length
    ·obtain ⟨b, off, e, rfl, hb, hx, hc⟩ := h2.at hlt2
     have hcc := fun j hj => (hD.below.cell (by exact hb)).trans (hc j hj)
     have hc0 := hcc 0 (by omega)
     have hc1 := hcc 1 (by omega)
     simp only [Nat.add_zero, encL] at hc0 hc1
     have hin := HvL.out e (List.mem_of_getElem? hx)
     simp only [okLeaf, inR, Bool.and_eq_true, decide_eq_true_eq] at hin
     obtain ⟨⟨hi0, hi1⟩, hi2, hi3⟩ := hin
     obtain ⟨x, q⟩ := e
     dsimp only at *
     obtain ⟨x, rfl⟩ := Int.eq_ofNat_of_zero_le hi0
     have hi4 : q < 64 := by omega
     have hxL : x < L := by omega
     have hsn := hide (leafTo_snoc L (lv.take k2) ⟨x, q⟩ x rfl hxL)
     have hMx := hD.larr.cell x
     have hgx : (leafTo L (lv.take k2))[x]? = some (leafM (lv.take k2) x) := leafTo_get _ hxL
     have hMx2 : wr.cell? ⟨gl, x, none⟩ = some (.int .u64 (leafM (lv.take k2) x : Int)) := by
      rw [hMx]; simp [hgx, encU]
     have hfx := hD.larr.frozen x
     have hU : U64 (leafM (lv.take k2) x) := U64.leafM fun e he => by
      have := HvL.out e (List.mem_of_mem_take he)
      simp only [okLeaf, inR, Bool.and_eq_true, decide_eq_true_eq] at this
      omega
     have hHx := hide hx
     clear hcc hc hx hgx hMx
     go_wp2_with fail
     refine Reg.cN [0, 0, 2, 7, 15, 0, 32, 96, 255, 511, 1023] ?_
     intro Qf hQf
     go_wp2_with fail
     refine ⟨rfl, ?_⟩
     go_wp2_with fail
     have hDa := hD.store hglb x (setB (leafM (lv.take k2) x) q)
     rw [← hsn.out, ← take_snoc hHx.out] at hDa
     exact ⟨⟨k2 + 1, by omega, by go_num, hDa.same (((Kept.refl _ (fun _ => False)).alloc _).drew)⟩, by simp [intOf]; omega⟩
    ·have hcB := hD.box.cell
     have hkk := hide (List.take_of_length_le (by omega : lv.length ≤ k2))
     rw [hkk.out] at hD
     obtain ⟨gy, w5, hmk, hMy, hb5, hgy⟩ := mk_by wr L (by omega)
     have hsz3 := hMy.lt
     have hD5 := hD.kept (Kept.of_below hb5 (fun _ => False)) (fun _ h => h.elim)
     have hcB5 := (hD5.kept ((Kept.refl w5 (fun _ => False)).alloc (.cells #[.slice (some ⟨gy, 0, none⟩) L L] 94)) (fun _ h => h.elim)).box.cell
     clear h2 hn2 hD0
     go_wp2_with fail
     obtain ⟨w6, hw6, hb6, hB6, hk6⟩ := box_blk w5 #[.slice (some ⟨gy, 0, none⟩) L L] 94
     rw [hw6]
     clear hw6
     have hD6 := hD5.kept (Kept.of_below hb6 (fun _ => False)) (fun _ h => h.elim)
     have hY6 : ByT w6 w.heap.size gy (List.replicate L (.slice none 0 0)) (byTo L []) := by
      rw [byTo_nil]
      exact ByT.new (hMy.below hb6)
     have hsz4 := hb5.size
     have hsz5 := hb6.size
     have hgne : gy ≠ w5.heap.size := by omega
     have hgy2 : gl < gy := by omega
     have hgy3 : g8 < gy := by omega
     have hg11 : gl < w5.heap.size := by omega
     have hg12 : g8 < w5.heap.size := by omega
     generalize w5.heap.size = g11 at *
     clear hmk hMy hb5 hcB5 hb6 hk6 hcB hcL hD hD5 hsz1 hsz2 hsz3 hsz4 hsz5 hgy hkk
     go_loopw [54] (fun i wt => ∃ (k : Nat) (us : List Value), k ≤ br.length ∧ i = .int .i64 (k : Int) ∧ DetS w wt g8 gl L m #[.int .i64 L, .int .i64 S, .slice A1 acc.length c1, .slice A2 lv.length c2, .slice A3 br.length c3] (leafTo L lv) ∧
      Blk wt g11 94 #[.slice (some ⟨gy, 0, none⟩) L L] ∧ ByT wt w.heap.size gy us (byTo L (br.take k))) (fun i _ => br.length - (intOf i).toNat)
     case atStart => exact ⟨0, _, Nat.zero_le _, rfl, hD6, hB6, hY6⟩
     case round =>
      obtain ⟨k3, us, hk3, rfl, hD, hB, hY⟩ := hrel
      have hcY := hB.cell 0
      have hsz1 := hB.lt
      have hsz2 := hY.blk.lt
      by_cases hlt3 : k3 < br.length
      ·obtain ⟨b, off, e, rfl, hb, hx, hc⟩ := h3.at hlt3
       have hcc := fun j hj => (hD.below.cell (by exact hb)).trans (hc j hj)
       have hc0 := hcc 0 (by omega)
       have hc1 := hcc 1 (by omega)
       have hc2 := hcc 2 (by omega)
       have hc3 := hcc 3 (by omega)
       simp only [Nat.add_zero, encBr] at hc0 hc1 hc2 hc3
       have hin := HvB.out e (List.mem_of_getElem? hx)
       simp only [okBranch, inR, Bool.and_eq_true, decide_eq_true_eq] at hin
       obtain ⟨⟨⟨⟨hi0, hi1⟩, -⟩, -⟩, -⟩ := hin
       obtain ⟨x, f1, f2, q⟩ := e
       dsimp only at *
       obtain ⟨x, rfl⟩ := Int.eq_ofNat_of_zero_le hi0
       have hxL : x < L := by omega
       have hsn := hide (byTo_snoc L (br.take k3) ⟨x, f1, f2, q⟩ x rfl hxL)
       have hrx := byTo_get (L := L) (br.take k3) hxL
       obtain ⟨ui, hui⟩ : ∃ ui, us[x]? = some ui := ⟨_, List.getElem?_eq_getElem (by rw [hY.len]; exact lt_of_get hrx)⟩
       have hrow := hY.row x ui _ hui hrx
       obtain ⟨Ai, ci, rfl⟩ := slice_of_own hrow
       have hcu : wr.cell? ⟨gy, x, none⟩ = some (.slice Ai (byL (br.take k3) x).length ci) := by rw [hY.blk.cell]; simpa using hui
       have hle : (byL (br.take k3) x).length ≤ 900000 := by
        have h1 := filter_le (fun b : Branch => decide (b.letter = (x : Int))) (br.take k3)
        have h2 := List.length_take_le k3 br
        unfold byL
        omega
       have hfx := hY.blk.frozen x
       have hHx := hide hx
       have hHui := hide hui
       have hHrx := hide hrx
       clear hcc hc hx hui hrx
       go_wp2_with fail
       refine Reg.cC [0, 0, 2, 0, 0, 16, 56, 120, 0, 256, 1016, 2047, 4095] [0, 1, 2, 3, 4, 5, 6, 7, 8, 9, 10, 11, 12] ?_
       refine Reg.rest_walk' [0, 1, 2, 3, 4, 5, 6, 7, 8, 9] [10, 11, 12] rfl (by kernel_rfl) ?_
       intro Qf hQf
       go_wp2_with fail
       rw [List.filterMap_nil]
       go_wp2_with fail
       refine Reg.rest_act' 10 [11, 12] [0, 2] rfl (by kernel_rfl) ?_
       intro Qf hQf
       simp only [gT, gS, gZ]
       have hKa : Kept wr (wr.alloc (.cells #[.int .i64 (x : Int), .int .i64 f1, .int .i64 f2, .int .i64 q] 73)).drew (fun _ => False) := ((Kept.refl wr _).alloc _).drew
       have h13 : Blk (wr.alloc (.cells #[.int .i64 (x : Int), .int .i64 f1, .int .i64 f2, .int .i64 q] 73)).drew wr.heap.size 73 #[.int .i64 (x : Int), .int .i64 f1, .int .i64 f2, .int .i64 q] := Blk.new wr 73 _
       have hDa := hD.same hKa
       have hBa := hB.kept hKa id
       have hYa := hY.keep hKa id (fun _ _ h => h.elim)
       have hra := hYa.row x _ _ hHui.out hHrx.out
       have hbase := hDa.below.size
       refine wpList_app_new (w := (wr.alloc (.cells #[.int .i64 (x : Int), .int .i64 f1, .int .i64 f2, .int .i64 q] 73)).drew) row24 rfl _ _ rfl w.heap.size (.slice Ai (byL (br.take k3) x).length ci) (byL (br.take k3) x).length _ rfl hra [.int .i64 (x : Int), .int .i64 f1, .int .i64 f2, .int .i64 q] 1 (by show Value.slice (some ⟨wr.heap.size + 1, 0, none⟩) 1 1 = _; simp) rfl (by simp [Value.oneCell']) (by omega) hbase ?_
       intro g cap' w7 hown7 hk7 hmv7 hg7
       have hX7 : ∀ k, (Value.slice Ai (byL (br.take k3) x).length ci).ownBlock = some k → w.heap.size ≤ k ∧ k ≠ w.heap.size ∧ k ≠ w.heap.size + 1 ∧ k ≠ g8 ∧ k ≠ gl := fun k hk =>
        ⟨own_base hra hk, fun e => own_blk_ne hra hDa.box (by decide) (by rw [← e]; exact hk), fun e => own_blk_ne hra hDa.acc (by decide) (by rw [← e]; exact hk), fun e => own_blk_ne hra hDa.lvar (by decide) (by rw [← e]; exact hk), fun e => own_blk_ne hra hDa.larr (by decide) (by rw [← e]; exact hk)⟩
       have hD7 := hDa.kept hk7 hX7
       have hB7 := hBa.kept hk7 (fun e => own_blk_ne hra hBa (by decide) e)
       have h137 : w7.cell? ⟨wr.heap.size, 0, none⟩ = some (.int .i64 (x : Int)) := by
        by_cases e : (Value.slice Ai (byL (br.take k3) x).length ci).ownBlock = some wr.heap.size
        ·exfalso
         have := own_lt hrow e
         omega
        ·exact (h13.kept hk7 e).cell 0
       have hYs := hYa.add hHui.out hHrx.out hk7 hown7 hmv7 (b := ⟨x, f1, f2, q⟩)
       rw [← hsn.out, ← take_snoc hHx.out] at hYs
       have hgy7 := hYa.blk.kept hk7 (fun e => own_blk_ne hra hYa.blk (by decide) e)
       have hcy7 : w7.cell? ⟨gy, x, none⟩ = some (.slice Ai (byL (br.take k3) x).length ci) := by rw [hgy7.cell]; simpa using hHui.out
       have hfy7 := hgy7.frozen x
       refine hQf _ _ ⟨?_, ?_⟩
       ·intro z hz q hq
        simp only [List.mem_cons, List.not_mem_nil, or_false] at hz
        rcases hz with rfl | rfl
        ·injection hq with hq
         subst hq
         exact Reg.same_load1 rfl rfl ((hBa.kept ((Kept.refl _ (fun _ => False)).alloc _) id).cell 0) (hB7.cell 0) Tryd.underlying94 rfl
        ·injection hq with hq
         subst hq
         exact Reg.same_load1 rfl rfl ((h13.kept ((Kept.refl _ (fun _ => False)).alloc _) id).cell 0) h137 Tryd.underlying3 rfl
       ·clear hQf
        refine Reg.rest_walk' [11, 12] [] rfl (by kernel_rfl) ?_
        intro Qf hQf
        go_wp2_with fail
        rw [List.filterMap_nil]
        go_wp2_with fail
        refine Reg.rest_end ?_
        go_wp2_with fail
        have hks := (Kept.refl w7 (fun k => k = gy)).setCell (p := ⟨gy, x, none⟩) (fun _ => rfl) (.slice (some ⟨g, 0, none⟩) ((byL (br.take k3) x).length + 1) cap')
        refine ⟨⟨k3 + 1, _, by omega, by go_num, hD7.kept hks (fun k e => by omega), hB7.kept hks (fun e => hgne e.symm), hYs⟩, by simp [intOf]; omega⟩
      ·have hcB := hD.box.cell
       have hkk := hide (List.take_of_length_le (by omega : br.length ≤ k3))
       rw [hkk.out] at hY
       clear h3 hn3 hD6 hB6 hY6
       obtain ⟨wb, hwb, hbb, hBb, hkb⟩ := box_blk wr #[.int .i64 L, .int .i64 64, .map none, .slice none 0 0, .func (.func 50) #[] #[.pointer (some ⟨g8, 0, none⟩)], .func (.func 51) #[] #[.pointer (some ⟨g11, 0, none⟩)], .func (.func 52) #[] #[.pointer (some ⟨w.heap.size + 1, 0, none⟩)]] 100
       have hC := det_clos hD hB hY hm HvL.out HvB.out hS64 hbig hkb
       have hsz3 := hD.below.size
       have hCC := hide hC
       have hDD := hide hD
       have hWB := hide hwb
       clear hC hwb
       go_wp2_with fail
       rw [hWB.out]
       refine Calls.ret (buildU hCC.out (by omega) (by omega) hBb) ?_
       rintro v w9 ⟨hk9, hres⟩
       have hres9 := hide hres
       clear hres
       go_wp2_with fail
       have hbelow : Below w.heap.size w w9 := hDD.out.below.trans ((hkb.trans hk9 (fun b hb e => by omega)).below hsz3 fun _ _ h => h)
       go_ret
       refine ⟨hbelow, ?_⟩
       obtain ⟨l, h1, h2, h3⟩ := hres9.out
       have hme : m = accM acc := hmm2.out
       subst hme
       refine ⟨l, h1, h2, h3.imp id ?_⟩
       rintro ⟨gM, lf, t, h4, h5, h6, h7⟩
       have hsz4 := hbb.size
       exact ⟨gM, lf, t, h4, by omega, h6.weak (by omega), h7⟩
end Go.Proofs.YtbjdgepfhhafjaaDoor
