/-
  Part XE of a proof.
-/
import Derived.Deep.RegionHeld3
import Derived.Test.YtbjdgepfhhafjaaDoorXA
import Derived.Test.YtbjdgepfhhafjaaDoorXD
set_option maxHeartbeats 16000000
set_option maxRecDepth 100000
namespace Go.Proofs.YtbjdgepfhhafjaaDoor
open Go.RowKit
section
variable {S : Type} [DecidableEq S] {P : Program} {K : TypeId}
theorem run_idx_get {enc : S → Value} (hk : KeyOK P K enc) {T E : TypeId} (hT : P.underlying T = some (.map K E)) {w : World} {g : Nat} {l : List S}
  (h : IdxMap w g (l.map enc)) (s : S) (hs : s ∈ l) :
  (Instr.lookup T (.map (some g)) (enc s) false).run P w = .ok (.int .i64 (l.idxOf s : Int)) w := by
 obtain ⟨es, clock, h1, h2, h3⟩ := h
 have hg : (getObj g).run P w = .ok (.map es clock) w := by simp [getObj, Sem.run, h1]
 have hf := hk.find w s es.toList l h2
 unfold Instr.lookup
 simp only [Sem.run_bind, run_underlying hT, Result.andThen_ok, hg, Sem.run_pure, hk.check, hf]
 simp only [hs, if_true]
 rw [idx_val h3 (by rw [List.length_map]; exact List.idxOf_lt_length_of_mem hs)]
 rfl
end
structure OMach (wb w : World) (gb gm gM L : Nat) (k1 k3 k4 vl : Value) (l : List Nat) (vacc vleaf vbr : Value) (ac : List Bool) (lf : List Nat) (t : List (List (List Nat))) : Prop where
 ord : OrdS wb w gb gm L k1 k3 k4 vl l
 blk : Blk w gM 79 #[.int .i64 L, vacc, vleaf, vbr]
 acc : w.ownsRow wb.heap.size 4 1 vacc ac.length (ac.map .bool)
 lfs : IntRow w wb.heap.size vleaf lf
 tab : Tab w wb.heap.size vbr t
 sep : ∀ k, vleaf.ownBlock = some k → vl.ownBlock ≠ some k
 gM_ : wb.heap.size ≤ gM
section
variable {wb w w' : World} {gb gm gM L : Nat} {k1 k3 k4 vl : Value} {l : List Nat} {vacc vleaf vbr : Value} {ac : List Bool} {lf : List Nat} {t : List (List (List Nat))}
theorem OMach.keep0 (h : OMach wb w gb gm gM L k1 k3 k4 vl l vacc vleaf vbr ac lf t) (hk : Kept w w' (fun _ => False)) : OMach wb w' gb gm gM L k1 k3 k4 vl l vacc vleaf vbr ac lf t := by
 have n : ∀ e, ∀ g cs, False → ¬ Blk w g e cs := fun _ _ _ h => h.elim
 obtain ⟨us, hu⟩ := h.tab.open
 exact ⟨h.ord.keep hk (fun _ hx => hx.elim), h.blk.kept hk id, own_ty hk h.acc (n 4), own_ty hk h.lfs (n 3), (hu.keep hk (n 3) (n 24) fun _ _ => id).close, h.sep, h.gM_⟩
theorem OMach.gne (h : OMach wb w gb gm gM L k1 k3 k4 vl l vacc vleaf vbr ac lf t) : gM ≠ gb ∧ gM ≠ gm ∧ vl.ownBlock ≠ some gM :=
 ⟨fun e => h.ord.bld.blk.ne_ h.blk (by decide) e.symm, fun e => blk_map_ne h.blk h.ord.bld.map e, own_blk_ne h.ord.bld.row h.blk (by decide)⟩
theorem OMach.cell (h : OMach wb w gb gm gM L k1 k3 k4 vl l vacc vleaf vbr ac lf t) (i : Nat) (u : Value) : Kept w (w.setCell ⟨gM, i, none⟩ u) (fun k => k = gM) ∧ OrdS wb (w.setCell ⟨gM, i, none⟩ u) gb gm L k1 k3 k4 vl l := by
 have hks := (Kept.refl w (fun k => k = gM)).setCell (p := ⟨gM, i, none⟩) (fun _ => rfl) u
 exact ⟨hks, h.ord.keep hks (fun k e => by subst e; exact ⟨h.gM_, h.gne⟩)⟩
theorem OMach.leaf {w3 : World} {v' : Value} {e : Nat} (h : OMach wb w gb gm gM L k1 k3 k4 vl l vacc vleaf (.slice none 0 0) ac lf []) (hk : Kept w w3 (fun k => vleaf.ownBlock = some k)) (ho : w3.ownsRow wb.heap.size 3 1 v' (lf.length + 1) (lf.map encN ++ [encN e])) (hm : Moved w vleaf v') :
  OMach wb (w3.setCell ⟨gM, 2, none⟩ v') gb gm gM L k1 k3 k4 vl l vacc v' (.slice none 0 0) ac (lf ++ [e]) [] := by
 have hO3 : OrdS wb w3 gb gm L k1 k3 k4 vl l := h.ord.keep hk fun k hx =>
  ⟨own_base h.lfs hx, fun e => own_blk_ne h.lfs h.ord.bld.blk (by decide) (by rw [← e]; exact hx), fun e => own_map_ne h.lfs h.ord.bld.map (by rw [← e]; exact hx), h.sep k hx⟩
 have hb3 : Blk w3 gM 79 _ := h.blk.kept hk fun e => own_blk_ne h.lfs h.blk (by decide) e
 have ha3 := own_ty hk h.acc (not_blk h.lfs (by decide))
 have hks := (Kept.refl w3 (fun k => k = gM)).setCell (p := ⟨gM, 2, none⟩) (fun _ => rfl) v'
 have hn : ∀ (e : TypeId), e ≠ 79 → ∀ g cs, g = gM → ¬ Blk w3 g e cs := fun e he g cs eg hb => by subst eg; exact hb3.ne_ hb (fun h => he h.symm) rfl
 have hgm3 : gM ≠ gb ∧ gM ≠ gm ∧ vl.ownBlock ≠ some gM := h.gne
 refine ⟨hO3.keep hks fun k e => by subst e; exact ⟨h.gM_, hgm3⟩, hb3.set_ 2 v', own_ty hks ha3 (hn 4 (by decide)), ?_, Tab.nil, fun k hk' hl => ?_, h.gM_⟩
 ·have := own_ty hks ho (hn 3 (by decide))
  unfold IntRow
  simpa using this
 ·rcases hm with hm | ⟨g, hm, hg⟩
  ·exact h.sep k (by rw [← hm]; exact hk') hl
  ·rw [hm] at hk'
   injection hk' with hk'
   have := own_lt h.ord.bld.row hl
   omega
theorem TabU.line {w w1 : World} {base : Nat} {v v' vr : Value} {us : List Value} {t : List (List (List Nat))} {r : List (List Nat)} (h : TabU w base v us t) (hr : RowRow w base vr r) (hk : Kept w w1 (fun k => v.ownBlock = some k)) (ho : w1.ownsRow base 81 1 v' (t.length + 1) (us ++ [vr]))
  (hsep : ∀ (i : Nat) (u : Value) (g : Nat), us[i]? = some u → u.ownBlock = some g → vr.ownBlock = some g → False) : TabU w1 base v' (us ++ [vr]) (t ++ [r]) := by
 refine ⟨by simp [h.len], by simpa using ho, fun i u r' hu hr' => ?_, fun i j u u' g hu hu' hg hg' => ?_⟩
 ·by_cases hi : i < us.length
  ·rw [List.getElem?_append_left hi] at hu
   rw [List.getElem?_append_left (by rw [← h.len]; exact hi)] at hr'
   obtain ⟨us', h1, h2, h4⟩ := h.row i u r' hu hr'
   exact ⟨us', h1, own_ty hk h2 (not_blk h.own (by decide)), fun i u r hu hr => own_ty hk (h4 i u r hu hr) (not_blk h.own (by decide))⟩
  ·have h1 := lt_of_get hu
   simp at h1
   obtain rfl : i = us.length := by omega
   simp at hu
   rw [h.len] at hr'
   simp at hr'
   subst hu hr'
   obtain ⟨us', h1, h2, h4⟩ := hr
   exact ⟨us', h1, own_ty hk h2 (not_blk h.own (by decide)), fun i u r hu hr => own_ty hk (h4 i u r hu hr) (not_blk h.own (by decide))⟩
 ·have aux : ∀ (i : Nat) (u : Value), (us ++ [vr])[i]? = some u → (i < us.length ∧ us[i]? = some u) ∨ (i = us.length ∧ u = vr) := fun i u hu => by
   by_cases hi : i < us.length
   ·rw [List.getElem?_append_left hi] at hu
    exact .inl ⟨hi, hu⟩
   ·have h1 := lt_of_get hu
    simp at h1
    obtain rfl : i = us.length := by omega
    simp at hu
    exact .inr ⟨rfl, hu.symm⟩
  rcases aux i u hu with ⟨hi, hx⟩ | ⟨rfl, rfl⟩
  ·rcases aux j u' hu' with ⟨hj, hy⟩ | ⟨rfl, rfl⟩
   ·exact h.sep i j u u' g hx hy hg hg'
   ·exact (hsep i u g hx hg hg').elim
  ·rcases aux j u' hu' with ⟨hj, hy⟩ | ⟨rfl, rfl⟩
   ·exact (hsep j u' g hy hg' hg).elim
   ·rfl
theorem OMach.line {w3 : World} {v' vr : Value} {us : List Value} {r : List (List Nat)} (h : OMach wb w gb gm gM L k1 k3 k4 vl l vacc vleaf vbr ac lf t) (hu : TabU w wb.heap.size vbr us t) (hr : RowRow w wb.heap.size vr r) (hk : Kept w w3 (fun k => vbr.ownBlock = some k)) (ho : w3.ownsRow wb.heap.size 81 1 v' (t.length + 1) (us ++ [vr]))
  (hsep : ∀ (i : Nat) (u : Value) (g : Nat), us[i]? = some u → u.ownBlock = some g → vr.ownBlock = some g → False) : OMach wb (w3.setCell ⟨gM, 3, none⟩ v') gb gm gM L k1 k3 k4 vl l vacc vleaf v' ac lf (t ++ [r]) := by
 have hu3 := hu.line hr hk ho hsep
 have hO3 : OrdS wb w3 gb gm L k1 k3 k4 vl l := h.ord.keep hk fun k hx =>
  ⟨own_base hu.own hx, fun e => own_blk_ne hu.own h.ord.bld.blk (by decide) (by rw [← e]; exact hx), fun e => own_map_ne hu.own h.ord.bld.map (by rw [← e]; exact hx), own_own_ne hu.own h.ord.bld.row (by decide) hx⟩
 have hb3 : Blk w3 gM 79 _ := h.blk.kept hk fun e => own_blk_ne hu.own h.blk (by decide) e
 have ha3 := own_ty hk h.acc (not_blk hu.own (by decide))
 have hl3 := own_ty hk h.lfs (not_blk hu.own (by decide))
 have hks := (Kept.refl w3 (fun k => k = gM)).setCell (p := ⟨gM, 3, none⟩) (fun _ => rfl) v'
 have hn : ∀ (e : TypeId), e ≠ 79 → ∀ g cs, g = gM → ¬ Blk w3 g e cs := fun e he g cs eg hb => by subst eg; exact hb3.ne_ hb (fun h => he h.symm) rfl
 exact ⟨hO3.keep hks fun k e => by subst e; exact ⟨h.gM_, h.gne⟩, hb3.set_ 3 v', own_ty hks ha3 (hn 4 (by decide)), own_ty hks hl3 (hn 3 (by decide)),
  (hu3.keep hks (hn 3 (by decide)) (hn 24 (by decide)) fun g hg hx => hn 81 (by decide) g _ hx (own_blk hu3.own hg).choose_spec).close, h.sep, h.gM_⟩
theorem OMach.answer {w3 : World} {v' : Value} {b : Bool} (h : OMach wb w gb gm gM L k1 k3 k4 vl l vacc vleaf vbr ac lf t) (hk : Kept w w3 (fun k => vacc.ownBlock = some k)) (ho : w3.ownsRow wb.heap.size 4 1 v' (ac.length + 1) (ac.map .bool ++ [.bool b])) :
  OMach wb (w3.setCell ⟨gM, 1, none⟩ v') gb gm gM L k1 k3 k4 vl l v' vleaf vbr (ac ++ [b]) lf t := by
 have hO3 : OrdS wb w3 gb gm L k1 k3 k4 vl l := h.ord.keep hk fun k hx =>
  ⟨own_base h.acc hx, fun e => own_blk_ne h.acc h.ord.bld.blk (by decide) (by rw [← e]; exact hx), fun e => own_map_ne h.acc h.ord.bld.map (by rw [← e]; exact hx), own_own_ne h.acc h.ord.bld.row (by decide) hx⟩
 have hb3 : Blk w3 gM 79 _ := h.blk.kept hk fun e => own_blk_ne h.acc h.blk (by decide) e
 have hl3 := own_ty hk h.lfs (not_blk h.acc (by decide))
 obtain ⟨us, hu⟩ := h.tab.open
 have hu3 := hu.keep hk (not_blk h.acc (by decide)) (not_blk h.acc (by decide)) fun g hg => own_own_ne hu.own h.acc (by decide) hg
 have hks := (Kept.refl w3 (fun k => k = gM)).setCell (p := ⟨gM, 1, none⟩) (fun _ => rfl) v'
 have hn : ∀ (e : TypeId), e ≠ 79 → ∀ g cs, g = gM → ¬ Blk w3 g e cs := fun e he g cs eg hb => by subst eg; exact hb3.ne_ hb (fun h => he h.symm) rfl
 refine ⟨hO3.keep hks fun k e => by subst e; exact ⟨h.gM_, h.gne⟩, hb3.set_ 1 v', ?_, own_ty hks hl3 (hn 3 (by decide)),
  (hu3.keep hks (hn 3 (by decide)) (hn 24 (by decide)) fun g hg hx => hn 81 (by decide) g _ hx (own_blk hu3.own hg).choose_spec).close, h.sep, h.gM_⟩
 have := own_ty hks ho (hn 4 (by decide))
 simpa using this
theorem row_add {w w1 : World} {base : Nat} {v v' vrow : Value} {us : List Value} {r : List (List Nat)} {row : List Nat} (h1 : us.length = r.length) (h2 : w.ownsRow base 24 1 v r.length us) (h3 : ∀ (i : Nat) (u : Value) (q : List Nat), us[i]? = some u → r[i]? = some q → IntRow w base u q)
  (hv : IntRow w base vrow row) (hk : Kept w w1 (fun k => v.ownBlock = some k)) (ho : w1.ownsRow base 24 1 v' (r.length + 1) (us ++ [vrow])) : RowRow w1 base v' (r ++ [row]) := by
 refine ⟨us ++ [vrow], by simp [h1], by simpa using ho, fun i u q hu hq => ?_⟩
 have hh : IntRow w base u q := by
  by_cases hi : i < us.length
  ·rw [List.getElem?_append_left hi] at hu
   rw [List.getElem?_append_left (by rw [← h1]; exact hi)] at hq
   exact h3 i u q hu hq
  ·have h5 := lt_of_get hu
   simp at h5
   obtain rfl : i = us.length := by omega
   simp at hu
   rw [h1] at hq
   simp at hq
   subst hu hq
   exact hv
 exact own_ty hk hh (not_blk h2 (by decide))
end
def ordRow (l : List Nat) (br : Nat → Nat → Nat → Nat) (L p q : Nat) : List Nat := (List.range L).map fun x => l.idxOf (br x p q)
def ordLine (l : List Nat) (br : Nat → Nat → Nat → Nat) (L p : Nat) : List (List Nat) := l.map fun q => ordRow l br L p q
def ordTab (l : List Nat) (br : Nat → Nat → Nat → Nat) (L : Nat) : List (List (List Nat)) := l.map fun p => ordLine l br L p
def ordLeaf (l : List Nat) (leaf : Nat → Nat) (L : Nat) : List Nat := (List.range L).map fun x => l.idxOf (leaf x)
theorem get_idxOf {l : List Nat} {s : Nat} (h : s ∈ l) : l[l.idxOf s]? = some s := by
 rw [List.getElem?_eq_getElem (List.idxOf_lt_length_of_mem h), List.getElem_idxOf]
theorem ordLeaf_ok {l : List Nat} {leaf : Nat → Nat} {L : Nat} (h : ∀ x, x < L → leaf x ∈ l) : LeafOK leaf l (ordLeaf l leaf L) := fun x e he => by
 unfold ordLeaf at he
 have hx := lt_of_get he
 simp at hx
 rw [List.getElem?_map, List.getElem?_range hx] at he
 simp at he
 subst he
 exact get_idxOf (h x hx)
theorem ordTab_ok {l : List Nat} {br : Nat → Nat → Nat → Nat} {L : Nat} (h : ∀ x p q, x < L → p ∈ l → q ∈ l → br x p q ∈ l) : TabOK L br l (fun _ => l.length) (ordTab l br L) := fun i r hr => by
 unfold ordTab at hr
 rw [List.getElem?_map] at hr
 obtain ⟨p, hp, rfl⟩ := Option.map_eq_some_iff.1 hr
 refine ⟨by simp [ordLine], fun j row hrow => ?_⟩
 unfold ordLine at hrow
 rw [List.getElem?_map] at hrow
 obtain ⟨q, hq, rfl⟩ := Option.map_eq_some_iff.1 hrow
 refine ⟨by simp [ordRow], fun x e he => ⟨p, q, hp, hq, ?_⟩⟩
 unfold ordRow at he
 have hx := lt_of_get he
 simp at hx
 rw [List.getElem?_map, List.getElem?_range hx] at he
 simp at he
 subst he
 exact get_idxOf (h x p q hx (List.mem_of_getElem? hp) (List.mem_of_getElem? hq))
end Go.Proofs.YtbjdgepfhhafjaaDoor
namespace Go.Proofs.YtbjdgepfhhafjaaDoor
open Go.RowKit
theorem ord_lay {wb w : World} {gb gm gM L n : Nat} {k1 k3 k4 vl : Value} {l : List Nat} {leaf : Nat → Nat} {br : Nat → Nat → Nat → Nat} {acc : Nat → Bool} (hC : ClosI wb gb L n k1 k3 k4 leaf br acc) (hL : L ≤ 8)
  (hM : OMach wb w gb gm gM L k1 k3 k4 vl l (.slice none 0 0) (.slice none 0 0) (.slice none 0 0) [] [] []) (hl : ∀ x, x < L → leaf x ∈ l)
  {u1 u2 u3 u4 u5 u6 u7 u9 u10 u11 u12 u13 u14 u15 u16 u17 u18 u19 u20 u21 u22 u23 u24 u25 u26 u27 u28 u29 u30 u31 u32 u33 u34 u35 u36 u37 u38 u39 u40 u41 u42 u43 u44 u45 u46 u47 u48 u49 u50 u51 u52 u53 u54 u55 u56 u57 u58 u59 u60 u61 u62 u63 u64 u65 u66 u67 u68 u69 u70 u71 u72 u73 u74 u75 u76 u77 u78 u79 u80 u81 u82 u83 u84 u85 u86 u87 u88 u89 u90 u91 u92 u93 u94 u95 u96 u97 u100 u101 u102 u103 u104 u105 u106 u107 u108 u109 u110 u111 u112 u113 u114 u115 u116 u117 u118 u119 u120 u121 u122 u123 u124 u125 u126 u127 u128 u129 u130 u131 u132 u133 u134 u135 u136 u137 u138 u139 u140 u141 u142 u143 u144 u145 u146 u147 u148 u149 u150 u151 u152 u153 u154 u155 u156 u157 u158 u159 u160 u161 u162 u163 u164 u165 u166 u167 u168 u169 u170 u171 u172 u173 u174 u175 u176 u177 u178 u179 u180 u181 u182 u183 u184 u185 u186 u187 u188 u189 u190 u191 u192 u193 u194 u195 u196 u197 u198 u199 : Value}
  {Q : Exit → Act → World → Prop} (hNQ : Reg.NoQ Q)
  (hQ : ∀ (x9 x99 x100 x101 x102 x103 x104 x105 x106 x107 x108 x109 x110 x111 x112 x113 x114 x115 x116 x117 x118 x119 x120 x121 x122 : Value) (w' : World) (vleaf : Value), OMach wb w' gb gm gM L k1 k3 k4 vl l (.slice none 0 0) vleaf (.slice none 0 0) [] (ordLeaf l leaf L) [] →
   Q (.exit 10) ⟨List.toArray ((.pointer (some ⟨gb, 0, none⟩)) :: u1 :: u2 :: u3 :: u4 :: u5 :: u6 :: u7 :: (.pointer (some ⟨gM, 0, none⟩)) :: x9 :: u10 :: u11 :: u12 :: u13 :: u14 :: u15 :: u16 :: u17 :: u18 :: u19 :: u20 :: u21 :: u22 :: u23 :: u24 :: u25 :: u26 :: u27 :: u28 :: u29 ::
   u30 :: u31 :: u32 :: u33 :: u34 :: u35 :: u36 :: u37 :: u38 :: u39 :: u40 :: u41 :: u42 :: u43 :: u44 :: u45 :: u46 :: u47 :: u48 :: u49 :: u50 :: u51 :: u52 :: u53 :: u54 :: u55 :: u56 :: u57 :: u58 :: u59 :: u60 :: u61 :: u62 :: u63 :: u64 :: u65 :: u66 ::
   u67 :: u68 :: u69 :: u70 :: u71 :: u72 :: u73 :: u74 :: u75 :: u76 :: u77 :: u78 :: u79 :: u80 :: u81 :: u82 :: u83 :: u84 :: u85 :: u86 :: u87 :: u88 :: u89 :: u90 :: u91 :: u92 :: u93 :: u94 :: u95 :: u96 :: u97 :: (.int .i64 L) :: x99 :: x100 :: x101 ::
   x102 :: x103 :: x104 :: x105 :: x106 :: x107 :: x108 :: x109 :: x110 :: x111 :: x112 :: x113 :: x114 :: x115 :: x116 :: x117 :: x118 :: x119 :: x120 :: x121 :: x122 :: u123 :: u124 :: u125 :: u126 :: u127 :: u128 :: u129 :: u130 :: u131 :: u132 :: u133 :: u134 ::
   u135 :: u136 :: u137 :: u138 :: u139 :: u140 :: u141 :: u142 :: u143 :: u144 :: u145 :: u146 :: u147 :: u148 :: u149 :: u150 :: u151 :: u152 :: u153 :: u154 :: u155 :: u156 :: u157 :: u158 :: u159 :: u160 :: u161 :: u162 :: u163 :: u164 :: u165 :: u166 :: u167 ::
   u168 :: u169 :: u170 :: u171 :: u172 :: u173 :: u174 :: u175 :: u176 :: u177 :: u178 :: u179 :: u180 :: u181 :: u182 :: u183 :: u184 :: u185 :: u186 :: u187 :: u188 :: u189 :: u190 :: u191 :: u192 :: u193 :: u194 :: u195 :: u196 :: u197 :: u198 :: u199 :: []), []⟩ w') :
  (Code.loop (loopBody Tryd.f58 5)).wp Tryd.prog Q ⟨List.toArray ((.pointer (some ⟨gb, 0, none⟩)) :: u1 :: u2 :: u3 :: u4 :: u5 :: u6 :: u7 :: (.pointer (some ⟨gM, 0, none⟩)) :: u9 :: u10 :: u11 :: u12 :: u13 :: u14 :: u15 :: u16 :: u17 :: u18 :: u19 :: u20 :: u21 :: u22 :: u23 :: u24 :: u25 :: u26 :: u27 :: u28 :: u29 ::
   u30 :: u31 :: u32 :: u33 :: u34 :: u35 :: u36 :: u37 :: u38 :: u39 :: u40 :: u41 :: u42 :: u43 :: u44 :: u45 :: u46 :: u47 :: u48 :: u49 :: u50 :: u51 :: u52 :: u53 :: u54 :: u55 :: u56 :: u57 :: u58 :: u59 :: u60 :: u61 :: u62 :: u63 :: u64 :: u65 :: u66 ::
   u67 :: u68 :: u69 :: u70 :: u71 :: u72 :: u73 :: u74 :: u75 :: u76 :: u77 :: u78 :: u79 :: u80 :: u81 :: u82 :: u83 :: u84 :: u85 :: u86 :: u87 :: u88 :: u89 :: u90 :: u91 :: u92 :: u93 :: u94 :: u95 :: u96 :: u97 :: (.int .i64 L) :: (.int .i64 0) :: u100 ::
   u101 :: u102 :: u103 :: u104 :: u105 :: u106 :: u107 :: u108 :: u109 :: u110 :: u111 :: u112 :: u113 :: u114 :: u115 :: u116 :: u117 :: u118 :: u119 :: u120 :: u121 :: u122 :: u123 :: u124 :: u125 :: u126 :: u127 :: u128 :: u129 :: u130 :: u131 :: u132 :: u133 ::
   u134 :: u135 :: u136 :: u137 :: u138 :: u139 :: u140 :: u141 :: u142 :: u143 :: u144 :: u145 :: u146 :: u147 :: u148 :: u149 :: u150 :: u151 :: u152 :: u153 :: u154 :: u155 :: u156 :: u157 :: u158 :: u159 :: u160 :: u161 :: u162 :: u163 :: u164 :: u165 :: u166 ::
   u167 :: u168 :: u169 :: u170 :: u171 :: u172 :: u173 :: u174 :: u175 :: u176 :: u177 :: u178 :: u179 :: u180 :: u181 :: u182 :: u183 :: u184 :: u185 :: u186 :: u187 :: u188 :: u189 :: u190 :: u191 :: u192 :: u193 :: u194 :: u195 :: u196 :: u197 :: u198 :: u199 ::
   []), []⟩ w := by
 conv => arg 2; arg 1; whnf
 have hll := hide hl
 clear hl
 go_loopw [99] (fun jj wr => ∃ (x : Nat) (v : Value) (lf : List Nat), jj = .int .i64 (x : Int) ∧ x ≤ L ∧ lf.length ≤ x ∧ x ≤ lf.length ∧ OMach wb wr gb gm gM L k1 k3 k4 vl l (.slice none 0 0) v (.slice none 0 0) [] lf [] ∧ Hid (lf = (List.range x).map fun x => l.idxOf (leaf x))) (fun jj _ => L - (intOf jj).toNat)
 case atStart => exact ⟨0, _, [], rfl, Nat.zero_le _, by simp, by simp, hM, rfl⟩
 case round =>
  obtain ⟨x, v, lf, rfl, hx, hl1, hl2, hO, hlf⟩ := hrel
  obtain rfl : x = lf.length := by omega
  have hcb := hO.ord.bld.blk.cell
  have hcm := hO.blk.cell
  obtain ⟨A, c, rfl⟩ := slice_of_own hO.lfs
  by_cases hlt : lf.length < L
  ·have hin := hide (hll.out _ hlt)
   go_wp2_with fail
   refine Reg.region_cut [0, 0, 2, 6, 14, 0, 32, 96, 224, 0, 512, 1536, 3584, 0, 15872, 32736, 65504, 131070, 262143, 524287, 1048575] [0, 1, 2, 3, 4, 5, 6, 7, 8, 9, 10, 11, 12, 13, 14, 15, 16, 17, 18, 19, 20] (by kernel_rfl) (by repeat (first | exact hNQ | refine Reg.NoQ.then ?_ | refine Reg.NoQ.inBlock ?_)) ?_
   refine Reg.rest_walk' [0, 1, 2, 3, 4, 5, 6, 7, 8, 9, 10, 11, 12, 13] [14, 15, 16, 17, 18, 19, 20] rfl (by kernel_rfl) ?_
   intro Qf hQf
   go_wp2_with fail
   rw [List.filterMap_nil]
   go_wp2_with fail
   refine Reg.rest_act' 14 [15, 16, 17, 18, 19, 20] [4, 8] rfl (by kernel_rfl) ?_
   intro Qf hQf
   simp only [gT, gS, gZ]
   have hOd := hO.keep0 ((Kept.refl wr (fun _ => False)).drew)
   go_wp2_with (go_at_call 55; refine Calls.ret (hC.fl _ hOd.ord.kept lf.length hlt) ?_; rintro u w1 ⟨rfl, hb1⟩)
   refine ⟨Reg.same_below hb1 [4, 8] rfl, ?_⟩
   have hO1 := hOd.keep0 (Kept.of_below hb1 _)
   have hlk := run_idx_get keyI Tryd.underlying103 hO1.ord.bld.map (leaf lf.length) hin.out
   simp only [encN] at hlk
   refine Reg.rest_act' 15 [16, 17, 18, 19, 20] [4] rfl (by kernel_rfl) ?_
   intro Qf hQf
   simp only [gT, gS, gZ]
   go_wp2_with fail
   refine ⟨Reg.same_below (Below.refl _ _) [4] rfl, ?_⟩
   refine Reg.rest_walk' [16] [17, 18, 19, 20] rfl (by kernel_rfl) ?_
   intro Qf hQf
   go_wp2_with fail
   rw [List.filterMap_nil]
   go_wp2_with fail
   refine Reg.rest_act' 17 [18, 19, 20] [] rfl (by kernel_rfl) ?_
   intro Qf hQf
   simp only [gT, gS, gZ]
   have hwb1 := hO1.ord.kept.size
   refine wpList_app_new (w := w1) row22 rfl _ _ rfl wb.heap.size (.slice A lf.length c) lf.length _ rfl hO1.lfs [.int .i64 (l.idxOf (leaf lf.length) : Nat)] 1 rfl rfl (by simp [Value.oneCell']) (by omega) hwb1 ?_
   intro g cap' w3 hown hk3 hmv3 hg3
   have hm3 := hO1.blk.kept hk3 (fun e => own_blk_ne hO1.lfs hO1.blk (by decide) e)
   have hcm3 := hm3.cell
   have hfm3 := hm3.frozen
   have hOf := hO1.leaf (e := l.idxOf (leaf lf.length)) hk3 hown hmv3
   refine hQf _ _ ⟨Reg.nm, ?_⟩
   clear hQf
   refine Reg.rest_walk' [18, 19, 20] [] rfl (by kernel_rfl) ?_
   intro Qf hQf
   go_wp2_with fail
   rw [List.filterMap_nil]
   go_wp2_with fail
   refine Reg.rest_end ?_
   go_wp2_with fail
   refine ⟨⟨lf.length + 1, _, lf ++ [l.idxOf (leaf lf.length)], by simp, by omega, by simp, by simp, hOf, ?_⟩, by simp [intOf]; omega⟩
   show _ = _
   rw [List.range_succ, List.map_append, ← hlf.out]
   rfl
  ·have e : lf.length = L := by omega
   have he := hide e
   clear e
   go_wp2_with fail
   have h1 := hlf.out
   rw [he.out] at h1
   have h2 : ordLeaf l leaf L = lf := h1.symm
   rw [← h2] at hO
   exact hQ _ _ _ _ _ _ _ _ _ _ _ _ _ _ _ _ _ _ _ _ _ _ _ _ _ wr _ hO
theorem ord_fill {wb w0 w : World} {gb gm gM L n p q gr : Nat} {k1 k3 k4 vl vacc vleaf vbr : Value} {l lf : List Nat} {ac : List Bool} {t : List (List (List Nat))} {leaf : Nat → Nat} {br : Nat → Nat → Nat → Nat} {acc : Nat → Bool} (hC : ClosI wb gb L n k1 k3 k4 leaf br acc) (hL : L ≤ 8)
  (hM : OMach wb w0 gb gm gM L k1 k3 k4 vl l vacc vleaf vbr ac lf t) (hp : p < n) (hq : q < n) (hl : ∀ x, x < L → br x p q ∈ l)
  (hK : Kept w0 w (fun _ => False)) (hR : Blk w gr 3 (fillC L [])) (hgr : w0.heap.size ≤ gr)
  {u1 u2 u3 u4 u5 u6 u7 u8 u9 u10 u12 u13 u16 u17 u18 u19 u20 u21 u22 u23 u24 u25 u26 u27 u28 u29 u30 u31 u32 u33 u34 u35 u36 u37 u38 u39 u40 u41 u42 u43 u44 u45 u46 u47 u48 u49 u50 u51 u52 u53 u54 u55 u56 u57 u58 u59 u60 u61 u62 u63 u64 u65 u66 u67 u68 u69 u70 u71 u72 u73 u74 u75 u76 u77 u78 u79 u80 u81 u82 u83 u84 u85 u86 u87 u88 u89 u90 u91 u92 u93 u94 u95 u96 u97 u98 u99 u100 u101 u102 u103 u104 u105 u106 u107 u108 u109 u110 u111 u112 u113 u114 u115 u116 u117 u118 u119 u120 u121 u122 u123 u124 u125 u126 u127 u128 u129 u130 u131 u132 u133 u134 u135 u136 u137 u138 u139 u140 u141 u142 u143 u144 u145 u146 u149 u150 u151 u152 u153 u154 u155 u156 u157 u158 u159 u160 u161 u162 u163 u164 u165 u166 u167 u168 u169 u170 u171 u172 u173 u174 u175 u176 u177 u178 u179 u180 u181 u182 u183 u184 u185 u186 u187 u188 u189 u190 u191 u192 u193 u194 u195 u196 u197 u198 u199 : Value}
  {Q : Exit → Act → World → Prop} (hNQ : Reg.NoQ Q)
  (hQ : ∀ (x16 x148 x149 x150 x151 x152 x153 x154 x155 x156 x157 x158 x159 x160 x161 x162 x163 x164 x165 x166 x167 : Value) (w' : World), Kept w0 w' (fun _ => False) → Blk w' gr 3 (fillC L (ordRow l br L p q)) →
   Q (.exit 16) ⟨List.toArray ((.pointer (some ⟨gb, 0, none⟩)) :: u1 :: u2 :: u3 :: u4 :: u5 :: u6 :: u7 :: u8 :: u9 :: u10 :: (.int .i64 p) :: u12 :: u13 :: (.int .i64 q) :: (.slice (some ⟨gr, 0, none⟩) L L) :: x16 :: u17 :: u18 :: u19 :: u20 :: u21 :: u22 :: u23 :: u24 :: u25 :: u26 ::
   u27 :: u28 :: u29 :: u30 :: u31 :: u32 :: u33 :: u34 :: u35 :: u36 :: u37 :: u38 :: u39 :: u40 :: u41 :: u42 :: u43 :: u44 :: u45 :: u46 :: u47 :: u48 :: u49 :: u50 :: u51 :: u52 :: u53 :: u54 :: u55 :: u56 :: u57 :: u58 :: u59 :: u60 :: u61 :: u62 :: u63 ::
   u64 :: u65 :: u66 :: u67 :: u68 :: u69 :: u70 :: u71 :: u72 :: u73 :: u74 :: u75 :: u76 :: u77 :: u78 :: u79 :: u80 :: u81 :: u82 :: u83 :: u84 :: u85 :: u86 :: u87 :: u88 :: u89 :: u90 :: u91 :: u92 :: u93 :: u94 :: u95 :: u96 :: u97 :: u98 :: u99 :: u100 ::
   u101 :: u102 :: u103 :: u104 :: u105 :: u106 :: u107 :: u108 :: u109 :: u110 :: u111 :: u112 :: u113 :: u114 :: u115 :: u116 :: u117 :: u118 :: u119 :: u120 :: u121 :: u122 :: u123 :: u124 :: u125 :: u126 :: u127 :: u128 :: u129 :: u130 :: u131 :: u132 :: u133 ::
   u134 :: u135 :: u136 :: u137 :: u138 :: u139 :: u140 :: u141 :: u142 :: u143 :: u144 :: u145 :: u146 :: (.int .i64 L) :: x148 :: x149 :: x150 :: x151 :: x152 :: x153 :: x154 :: x155 :: x156 :: x157 :: x158 :: x159 :: x160 :: x161 :: x162 :: x163 :: x164 ::
   x165 :: x166 :: x167 :: u168 :: u169 :: u170 :: u171 :: u172 :: u173 :: u174 :: u175 :: u176 :: u177 :: u178 :: u179 :: u180 :: u181 :: u182 :: u183 :: u184 :: u185 :: u186 :: u187 :: u188 :: u189 :: u190 :: u191 :: u192 :: u193 :: u194 :: u195 :: u196 :: u197 ::
   u198 :: u199 :: []), []⟩ w') :
  (Code.loop (loopBody Tryd.f58 8)).wp Tryd.prog Q ⟨List.toArray ((.pointer (some ⟨gb, 0, none⟩)) :: u1 :: u2 :: u3 :: u4 :: u5 :: u6 :: u7 :: u8 :: u9 :: u10 :: (.int .i64 p) :: u12 :: u13 :: (.int .i64 q) :: (.slice (some ⟨gr, 0, none⟩) L L) :: u16 :: u17 :: u18 :: u19 :: u20 :: u21 :: u22 :: u23 :: u24 :: u25 :: u26 ::
   u27 :: u28 :: u29 :: u30 :: u31 :: u32 :: u33 :: u34 :: u35 :: u36 :: u37 :: u38 :: u39 :: u40 :: u41 :: u42 :: u43 :: u44 :: u45 :: u46 :: u47 :: u48 :: u49 :: u50 :: u51 :: u52 :: u53 :: u54 :: u55 :: u56 :: u57 :: u58 :: u59 :: u60 :: u61 :: u62 :: u63 ::
   u64 :: u65 :: u66 :: u67 :: u68 :: u69 :: u70 :: u71 :: u72 :: u73 :: u74 :: u75 :: u76 :: u77 :: u78 :: u79 :: u80 :: u81 :: u82 :: u83 :: u84 :: u85 :: u86 :: u87 :: u88 :: u89 :: u90 :: u91 :: u92 :: u93 :: u94 :: u95 :: u96 :: u97 :: u98 :: u99 :: u100 ::
   u101 :: u102 :: u103 :: u104 :: u105 :: u106 :: u107 :: u108 :: u109 :: u110 :: u111 :: u112 :: u113 :: u114 :: u115 :: u116 :: u117 :: u118 :: u119 :: u120 :: u121 :: u122 :: u123 :: u124 :: u125 :: u126 :: u127 :: u128 :: u129 :: u130 :: u131 :: u132 :: u133 ::
   u134 :: u135 :: u136 :: u137 :: u138 :: u139 :: u140 :: u141 :: u142 :: u143 :: u144 :: u145 :: u146 :: (.int .i64 L) :: (.int .i64 0) :: u149 :: u150 :: u151 :: u152 :: u153 :: u154 :: u155 :: u156 :: u157 :: u158 :: u159 :: u160 :: u161 :: u162 :: u163 ::
   u164 :: u165 :: u166 :: u167 :: u168 :: u169 :: u170 :: u171 :: u172 :: u173 :: u174 :: u175 :: u176 :: u177 :: u178 :: u179 :: u180 :: u181 :: u182 :: u183 :: u184 :: u185 :: u186 :: u187 :: u188 :: u189 :: u190 :: u191 :: u192 :: u193 :: u194 :: u195 :: u196 ::
   u197 :: u198 :: u199 :: []), []⟩ w := by
 conv => arg 2; arg 1; whnf
 have hll := hide hl
 clear hl
 go_loopw [148] (fun jj wr => ∃ (x : Nat) (row : List Nat), jj = .int .i64 (x : Int) ∧ x ≤ L ∧ row.length ≤ x ∧ x ≤ row.length ∧ Kept w0 wr (fun _ => False) ∧ Blk wr gr 3 (fillC L row) ∧ Hid (row = (List.range x).map fun x => l.idxOf (br x p q))) (fun jj _ => L - (intOf jj).toNat)
 case atStart => exact ⟨0, [], rfl, Nat.zero_le _, by simp, by simp, hK, hR, rfl⟩
 case round =>
  obtain ⟨x, row, rfl, hx, hl1, hl2, hK', hR', hrow⟩ := hrel
  obtain rfl : x = row.length := by omega
  have hO := hM.keep0 hK'
  have hcb := hO.ord.bld.blk.cell
  by_cases hlt : row.length < L
  ·have hin := hide (hll.out _ hlt)
   go_wp2_with fail
   refine Reg.region_cut [0, 0, 0, 4, 12, 28, 0, 64, 192, 448, 0, 0, 0, 8128, 16380, 32767, 65535] [0, 1, 2, 3, 4, 5, 6, 7, 8, 9, 10, 11, 12, 13, 14, 15, 16] (by kernel_rfl) (by repeat (first | exact hNQ | refine Reg.NoQ.then ?_ | refine Reg.NoQ.inBlock ?_)) ?_
   refine Reg.rest_walk' [0, 1, 2, 3, 4, 5, 6, 7, 8, 9, 10, 11, 12] [13, 14, 15, 16] rfl (by kernel_rfl) ?_
   intro Qf hQf
   go_wp2_with fail
   rw [List.filterMap_nil]
   go_wp2_with fail
   refine Reg.rest_act' 13 [14, 15, 16] [5] rfl (by kernel_rfl) ?_
   intro Qf hQf
   simp only [gT, gS, gZ]
   have hOd := hO.keep0 ((Kept.refl wr (fun _ => False)).drew)
   go_wp2_with (go_at_call 57; refine Calls.ret (hC.fb _ hOd.ord.kept row.length p q hlt hp hq) ?_; rintro u w1 ⟨rfl, hb1⟩)
   refine ⟨Reg.same_below hb1 [5] rfl, ?_⟩
   have hO1 := hOd.keep0 (Kept.of_below hb1 _)
   have hlk := run_idx_get keyI Tryd.underlying103 hO1.ord.bld.map (br row.length p q) hin.out
   simp only [encN] at hlk
   have hK1 : Kept w0 w1 (fun _ => False) := (hK'.drew).trans (Kept.of_below hb1 (fun _ => False)) (fun _ _ h => h)
   have hR1 : Blk w1 gr 3 (fillC L row) := Blk.kept (w := wr.drew) hR' (Kept.of_below hb1 (fun _ => False)) id
   have hcr : w1.cell? ⟨gr, row.length, none⟩ = some (.int .i64 0) := by rw [hR1.cell]; exact fillC_get hlt
   have hfr := hR1.frozen row.length
   have hgl := hR1.lt
   refine Reg.rest_walk' [14, 15, 16] [] rfl (by kernel_rfl) ?_
   intro Qf hQf
   go_wp2_with fail
   rw [List.filterMap_nil]
   go_wp2_with fail
   refine Reg.rest_end ?_
   go_wp2_with fail
   refine ⟨⟨row.length + 1, row ++ [l.idxOf (br row.length p q)], by simp, by omega, by simp, by simp, hK1.setCell (by simp; omega) _, ?_, ?_⟩, by simp [intOf]; omega⟩
   ·have := hR1.set_ row.length (.int .i64 (l.idxOf (br row.length p q) : Nat))
    rwa [fillC_set hlt] at this
   ·show _ = _
    rw [List.range_succ, List.map_append, ← hrow.out]
    rfl
  ·have e : row.length = L := by omega
   have he := hide e
   clear e
   go_wp2_with fail
   have h1 := hrow.out
   rw [he.out] at h1
   have h2 : ordRow l br L p q = row := h1.symm
   rw [← h2] at hR'
   exact hQ _ _ _ _ _ _ _ _ _ _ _ _ _ _ _ _ _ _ _ _ _ wr hK' hR'
end Go.Proofs.YtbjdgepfhhafjaaDoor
namespace Go.Proofs.YtbjdgepfhhafjaaDoor
open Go.RowKit
theorem ord_rows {wb w0 : World} {gb gm gM L n p gv cv : Nat} {k1 k3 k4 vacc vleaf vbr : Value} {l lf : List Nat} {ac : List Bool} {t : List (List (List Nat))} {leaf : Nat → Nat} {br : Nat → Nat → Nat → Nat} {acc : Nat → Bool} (hC : ClosI wb gb L n k1 k3 k4 leaf br acc) (hL : L ≤ 8) (hn : n ≤ 20000)
  (hM : OMach wb w0 gb gm gM L k1 k3 k4 (.slice (some ⟨gv, 0, none⟩) l.length cv) l vacc vleaf vbr ac lf t) (hp : p < n) (hN : NB n l) (hl : ∀ x q, x < L → q ∈ l → br x p q ∈ l)
  {u1 u2 u3 u4 u5 u6 u7 u8 u9 u10 u13 u14 u15 u16 u17 u18 u19 u20 u21 u22 u23 u24 u25 u26 u27 u28 u29 u30 u31 u32 u33 u34 u35 u36 u37 u38 u39 u40 u41 u42 u43 u44 u45 u46 u47 u48 u49 u50 u51 u52 u53 u54 u55 u56 u57 u58 u59 u60 u61 u62 u63 u64 u65 u66 u67 u68 u69 u70 u71 u72 u73 u74 u75 u76 u77 u78 u79 u80 u81 u82 u83 u84 u85 u86 u87 u88 u89 u90 u91 u92 u93 u94 u95 u96 u97 u98 u99 u100 u101 u102 u103 u104 u105 u106 u107 u108 u109 u110 u111 u112 u113 u114 u115 u116 u117 u118 u119 u120 u121 u122 u123 u124 u125 u126 u127 u128 u129 u130 u131 u132 u133 u134 u138 u139 u140 u141 u142 u143 u144 u145 u146 u147 u148 u149 u150 u151 u152 u153 u154 u155 u156 u157 u158 u159 u160 u161 u162 u163 u164 u165 u166 u167 u168 u169 u170 u171 u172 u173 u174 u175 u176 u177 u178 u179 u180 u181 u182 u183 u184 u185 u186 u187 u188 u189 u190 u191 u192 u193 u194 u195 u196 u197 u198 u199 : Value}
  {Q : Exit → Act → World → Prop} (hNQ : Reg.NoQ Q)
  (hQ : ∀ (x14 x15 x16 x137 x138 x139 x140 x141 x142 x143 x144 x145 x146 x147 x148 x149 x150 x151 x152 x153 x154 x155 x156 x157 x158 x159 x160 x161 x162 x163 x164 x165 x166 x167 x168 x169 x170 x171 x172 : Value) (w' : World) (vr : Value), Kept w0 w' (fun _ => False) → RowRow w' w0.heap.size vr (ordLine l br L p) →
   Q (.exit 14) ⟨List.toArray ((.pointer (some ⟨gb, 0, none⟩)) :: u1 :: u2 :: u3 :: u4 :: u5 :: u6 :: u7 :: u8 :: u9 :: u10 :: (.int .i64 p) :: vr :: u13 :: x14 :: x15 :: x16 :: u17 :: u18 :: u19 :: u20 :: u21 :: u22 :: u23 :: u24 :: u25 :: u26 :: u27 :: u28 :: u29 :: u30 :: u31 :: u32 ::
   u33 :: u34 :: u35 :: u36 :: u37 :: u38 :: u39 :: u40 :: u41 :: u42 :: u43 :: u44 :: u45 :: u46 :: u47 :: u48 :: u49 :: u50 :: u51 :: u52 :: u53 :: u54 :: u55 :: u56 :: u57 :: u58 :: u59 :: u60 :: u61 :: u62 :: u63 :: u64 :: u65 :: u66 :: u67 :: u68 :: u69 ::
   u70 :: u71 :: u72 :: u73 :: u74 :: u75 :: u76 :: u77 :: u78 :: u79 :: u80 :: u81 :: u82 :: u83 :: u84 :: u85 :: u86 :: u87 :: u88 :: u89 :: u90 :: u91 :: u92 :: u93 :: u94 :: u95 :: u96 :: u97 :: u98 :: u99 :: u100 :: u101 :: u102 :: u103 :: u104 :: u105 ::
   u106 :: u107 :: u108 :: u109 :: u110 :: u111 :: u112 :: u113 :: u114 :: u115 :: u116 :: u117 :: u118 :: u119 :: u120 :: u121 :: u122 :: u123 :: u124 :: u125 :: u126 :: u127 :: u128 :: u129 :: u130 :: u131 :: u132 :: u133 :: u134 ::
   (.slice (some ⟨gv, 0, none⟩) l.length cv) :: (.int .i64 l.length) :: x137 :: x138 :: x139 :: x140 :: x141 :: x142 :: x143 :: x144 :: x145 :: x146 :: x147 :: x148 :: x149 :: x150 :: x151 :: x152 :: x153 :: x154 :: x155 :: x156 :: x157 :: x158 :: x159 :: x160 ::
   x161 :: x162 :: x163 :: x164 :: x165 :: x166 :: x167 :: x168 :: x169 :: x170 :: x171 :: x172 :: u173 :: u174 :: u175 :: u176 :: u177 :: u178 :: u179 :: u180 :: u181 :: u182 :: u183 :: u184 :: u185 :: u186 :: u187 :: u188 :: u189 :: u190 :: u191 :: u192 :: u193 ::
   u194 :: u195 :: u196 :: u197 :: u198 :: u199 :: []), []⟩ w') :
  (Code.loop (loopBody Tryd.f58 7)).wp Tryd.prog Q ⟨List.toArray ((.pointer (some ⟨gb, 0, none⟩)) :: u1 :: u2 :: u3 :: u4 :: u5 :: u6 :: u7 :: u8 :: u9 :: u10 :: (.int .i64 p) :: (.slice none 0 0) :: u13 :: u14 :: u15 :: u16 :: u17 :: u18 :: u19 :: u20 :: u21 :: u22 :: u23 :: u24 :: u25 :: u26 :: u27 :: u28 :: u29 :: u30 ::
   u31 :: u32 :: u33 :: u34 :: u35 :: u36 :: u37 :: u38 :: u39 :: u40 :: u41 :: u42 :: u43 :: u44 :: u45 :: u46 :: u47 :: u48 :: u49 :: u50 :: u51 :: u52 :: u53 :: u54 :: u55 :: u56 :: u57 :: u58 :: u59 :: u60 :: u61 :: u62 :: u63 :: u64 :: u65 :: u66 :: u67 ::
   u68 :: u69 :: u70 :: u71 :: u72 :: u73 :: u74 :: u75 :: u76 :: u77 :: u78 :: u79 :: u80 :: u81 :: u82 :: u83 :: u84 :: u85 :: u86 :: u87 :: u88 :: u89 :: u90 :: u91 :: u92 :: u93 :: u94 :: u95 :: u96 :: u97 :: u98 :: u99 :: u100 :: u101 :: u102 :: u103 :: u104 ::
   u105 :: u106 :: u107 :: u108 :: u109 :: u110 :: u111 :: u112 :: u113 :: u114 :: u115 :: u116 :: u117 :: u118 :: u119 :: u120 :: u121 :: u122 :: u123 :: u124 :: u125 :: u126 :: u127 :: u128 :: u129 :: u130 :: u131 :: u132 :: u133 :: u134 ::
   (.slice (some ⟨gv, 0, none⟩) l.length cv) :: (.int .i64 l.length) :: (.int .i64 0) :: u138 :: u139 :: u140 :: u141 :: u142 :: u143 :: u144 :: u145 :: u146 :: u147 :: u148 :: u149 :: u150 :: u151 :: u152 :: u153 :: u154 :: u155 :: u156 :: u157 :: u158 :: u159 ::
   u160 :: u161 :: u162 :: u163 :: u164 :: u165 :: u166 :: u167 :: u168 :: u169 :: u170 :: u171 :: u172 :: u173 :: u174 :: u175 :: u176 :: u177 :: u178 :: u179 :: u180 :: u181 :: u182 :: u183 :: u184 :: u185 :: u186 :: u187 :: u188 :: u189 :: u190 :: u191 :: u192 ::
   u193 :: u194 :: u195 :: u196 :: u197 :: u198 :: u199 :: []), []⟩ w0 := by
 conv => arg 2; arg 1; whnf
 have hll := hide hl
 have hNN := hide hN
 clear hl hN
 go_loopw [12, 137] (fun vv jj wr => ∃ (j : Nat) (rows : List (List Nat)), jj = .int .i64 (j : Int) ∧ j ≤ l.length ∧ rows.length ≤ j ∧ j ≤ rows.length ∧ Kept w0 wr (fun _ => False) ∧ RowRow wr w0.heap.size vv rows ∧ Hid (rows = (l.take j).map fun q => ordRow l br L p q)) (fun _ jj _ => l.length - (intOf jj).toNat)
 case atStart => exact ⟨0, [], rfl, Nat.zero_le _, by simp, by simp, Kept.refl _ _, RowRow.nil, rfl⟩
 case round =>
  obtain ⟨j, rows, rfl, hj, hl1, hl2, hK, hrr, hrows⟩ := hrel
  obtain rfl : j = rows.length := by omega
  have hO := hM.keep0 hK
  have hcb := hO.ord.bld.blk.cell
  have hlen := hNN.out.len
  by_cases hlt : rows.length < l.length
  ·obtain ⟨q, hq⟩ := get_lt hlt
   have hcq := own_cell hO.ord.bld.row (map_get (f := encN) hq)
   simp only [encN] at hcq
   have hqn := hNN.out.get hq
   have hqm := hide (List.mem_of_getElem? hq)
   have hsn := hide (take_snoc hq)
   obtain ⟨gr, w1, hmk, hR, hb1, hgr⟩ := mk_row wr L (by omega)
   rw [← fillC_nil] at hR
   have hK1 := Kept.of_below hb1 (fun _ => False)
   have hsz := hK.size
   obtain ⟨us, hr1, hr2, hr3⟩ := hrr
   obtain ⟨A, c, rfl⟩ := slice_of_own hr2
   have hHr1 := hide hr1
   clear hq hr1
   go_wp2_with fail
   refine ord_fill hC hL hO hp hqn (fun x hx => hll.out x q hx hqm.out) hK1 hR hgr ?_ ?_
   ·repeat (first | exact hNQ | refine Reg.NoQ.then ?_ | refine Reg.NoQ.inBlock ?_)
   iterate 21 (intro _)
   intro w2 hK2 hR2
   have hr22 := own_ty hK2 hr2 (fun _ _ h => h.elim)
   have hr32 : ∀ (i : Nat) (u : Value) (q : List Nat), us[i]? = some u → rows[i]? = some q → IntRow w2 w0.heap.size u q := fun i u q hu hq => own_ty hK2 (hr3 i u q hu hq) (fun _ _ h => h.elim)
   have hnew : IntRow w2 w0.heap.size (.slice (some ⟨gr, 0, none⟩) L L) (ordRow l br L p q) := fillC_full hR2 (by simp [ordRow]) (by omega) hL
   have hsz2 := hK2.size
   have hn2 := hide hnew
   have hr33 := hide hr32
   clear hnew hr32 hr3 hmk
   go_wp2_with (at_builtin; refine wpList_app_new row104 rfl _ _ rfl w0.heap.size (.slice A rows.length c) rows.length us rfl hr22 [.slice (some ⟨gr, 0, none⟩) L L] 1 rfl rfl (by simp [Value.oneCell']) (by omega) (by omega) ?_; intro g cap' w3 hown hk3 hmv3 hg3)
   refine ⟨⟨rows.length + 1, rows ++ [ordRow l br L p q], by simp, by omega, by simp, by simp, ?_, row_add hHr1.out hr22 hr33.out hn2.out hk3 hown, ?_⟩, by simp [intOf]; omega⟩
   ·refine (hK.trans hK2 (fun _ _ h => h)).trans hk3 fun b hb hx => ?_
    have := own_base hr22 hx
    omega
   ·show _ = _
    rw [hsn.out, List.map_append, ← hrows.out]
    rfl
  ·have e : rows.length = l.length := by omega
   have he := hide e
   clear e
   go_wp2_with fail
   have h1 := hrows.out
   rw [he.out, List.take_length] at h1
   have h2 : ordLine l br L p = rows := h1.symm
   rw [← h2] at hrr
   exact hQ _ _ _ _ _ _ _ _ _ _ _ _ _ _ _ _ _ _ _ _ _ _ _ _ _ _ _ _ _ _ _ _ _ _ _ _ _ _ _ wr _ hK hrr
theorem ord_lines {wb w : World} {gb gm gM L n gv cv : Nat} {k1 k3 k4 vleaf : Value} {l lf : List Nat} {leaf : Nat → Nat} {br : Nat → Nat → Nat → Nat} {acc : Nat → Bool} (hC : ClosI wb gb L n k1 k3 k4 leaf br acc) (hL : L ≤ 8) (hn : n ≤ 20000)
  (hM : OMach wb w gb gm gM L k1 k3 k4 (.slice (some ⟨gv, 0, none⟩) l.length cv) l (.slice none 0 0) vleaf (.slice none 0 0) [] lf []) (hN : NB n l) (hl : ∀ x p q, x < L → p ∈ l → q ∈ l → br x p q ∈ l)
  {u1 u2 u3 u4 u5 u6 u7 u9 u10 u11 u12 u13 u14 u15 u16 u17 u18 u19 u20 u21 u22 u23 u24 u25 u26 u27 u28 u29 u30 u31 u32 u33 u34 u35 u36 u37 u38 u39 u40 u41 u42 u43 u44 u45 u46 u47 u48 u49 u50 u51 u52 u53 u54 u55 u56 u57 u58 u59 u60 u61 u62 u63 u64 u65 u66 u67 u68 u69 u70 u71 u72 u73 u74 u75 u76 u77 u78 u79 u80 u81 u82 u83 u84 u85 u86 u87 u88 u89 u90 u91 u92 u93 u94 u95 u96 u97 u98 u99 u100 u101 u102 u103 u104 u105 u106 u107 u108 u109 u110 u111 u112 u113 u114 u115 u116 u117 u118 u119 u120 u121 u122 u123 u124 u125 u129 u130 u131 u132 u133 u134 u135 u136 u137 u138 u139 u140 u141 u142 u143 u144 u145 u146 u147 u148 u149 u150 u151 u152 u153 u154 u155 u156 u157 u158 u159 u160 u161 u162 u163 u164 u165 u166 u167 u168 u169 u170 u171 u172 u173 u174 u175 u176 u177 u178 u179 u180 u181 u182 u183 u184 u185 u186 u187 u188 u189 u190 u191 u192 u193 u194 u195 u196 u197 u198 u199 : Value}
  {Q : Exit → Act → World → Prop} (hNQ : Reg.NoQ Q)
  (hQ : ∀ (x11 x12 x14 x15 x16 x128 x129 x130 x131 x132 x133 x134 x135 x136 x137 x138 x139 x140 x141 x142 x143 x144 x145 x146 x147 x148 x149 x150 x151 x152 x153 x154 x155 x156 x157 x158 x159 x160 x161 x162 x163 x164 x165 x166 x167 x168 x169 x170 x171 x172 x173 x174 x175 x176 x177 x178 x179 x180 x181 x182 x183 x184 x185 x186 x187 x188 x189 x190 x191 x192 x193 x194 x195 x196 x197 x198 : Value) (w' : World) (vacc vbr : Value), OMach wb w' gb gm gM L k1 k3 k4 (.slice (some ⟨gv, 0, none⟩) l.length cv) l vacc vleaf vbr (l.map acc) lf (ordTab l br L) →
   Q (.exit 12) ⟨List.toArray ((.pointer (some ⟨gb, 0, none⟩)) :: u1 :: u2 :: u3 :: u4 :: u5 :: u6 :: u7 :: (.pointer (some ⟨gM, 0, none⟩)) :: u9 :: u10 :: x11 :: x12 :: u13 :: x14 :: x15 :: x16 :: u17 :: u18 :: u19 :: u20 :: u21 :: u22 :: u23 :: u24 :: u25 :: u26 :: u27 :: u28 :: u29 ::
   u30 :: u31 :: u32 :: u33 :: u34 :: u35 :: u36 :: u37 :: u38 :: u39 :: u40 :: u41 :: u42 :: u43 :: u44 :: u45 :: u46 :: u47 :: u48 :: u49 :: u50 :: u51 :: u52 :: u53 :: u54 :: u55 :: u56 :: u57 :: u58 :: u59 :: u60 :: u61 :: u62 :: u63 :: u64 :: u65 :: u66 ::
   u67 :: u68 :: u69 :: u70 :: u71 :: u72 :: u73 :: u74 :: u75 :: u76 :: u77 :: u78 :: u79 :: u80 :: u81 :: u82 :: u83 :: u84 :: u85 :: u86 :: u87 :: u88 :: u89 :: u90 :: u91 :: u92 :: u93 :: u94 :: u95 :: u96 :: u97 :: u98 :: u99 :: u100 :: u101 :: u102 :: u103 ::
   u104 :: u105 :: u106 :: u107 :: u108 :: u109 :: u110 :: u111 :: u112 :: u113 :: u114 :: u115 :: u116 :: u117 :: u118 :: u119 :: u120 :: u121 :: u122 :: u123 :: u124 :: u125 :: (.slice (some ⟨gv, 0, none⟩) l.length cv) :: (.int .i64 l.length) :: x128 :: x129 ::
   x130 :: x131 :: x132 :: x133 :: x134 :: x135 :: x136 :: x137 :: x138 :: x139 :: x140 :: x141 :: x142 :: x143 :: x144 :: x145 :: x146 :: x147 :: x148 :: x149 :: x150 :: x151 :: x152 :: x153 :: x154 :: x155 :: x156 :: x157 :: x158 :: x159 :: x160 :: x161 :: x162 ::
   x163 :: x164 :: x165 :: x166 :: x167 :: x168 :: x169 :: x170 :: x171 :: x172 :: x173 :: x174 :: x175 :: x176 :: x177 :: x178 :: x179 :: x180 :: x181 :: x182 :: x183 :: x184 :: x185 :: x186 :: x187 :: x188 :: x189 :: x190 :: x191 :: x192 :: x193 :: x194 :: x195 ::
   x196 :: x197 :: x198 :: u199 :: []), []⟩ w') :
  (Code.loop (loopBody Tryd.f58 6)).wp Tryd.prog Q ⟨List.toArray ((.pointer (some ⟨gb, 0, none⟩)) :: u1 :: u2 :: u3 :: u4 :: u5 :: u6 :: u7 :: (.pointer (some ⟨gM, 0, none⟩)) :: u9 :: u10 :: u11 :: u12 :: u13 :: u14 :: u15 :: u16 :: u17 :: u18 :: u19 :: u20 :: u21 :: u22 :: u23 :: u24 :: u25 :: u26 :: u27 :: u28 :: u29 ::
   u30 :: u31 :: u32 :: u33 :: u34 :: u35 :: u36 :: u37 :: u38 :: u39 :: u40 :: u41 :: u42 :: u43 :: u44 :: u45 :: u46 :: u47 :: u48 :: u49 :: u50 :: u51 :: u52 :: u53 :: u54 :: u55 :: u56 :: u57 :: u58 :: u59 :: u60 :: u61 :: u62 :: u63 :: u64 :: u65 :: u66 ::
   u67 :: u68 :: u69 :: u70 :: u71 :: u72 :: u73 :: u74 :: u75 :: u76 :: u77 :: u78 :: u79 :: u80 :: u81 :: u82 :: u83 :: u84 :: u85 :: u86 :: u87 :: u88 :: u89 :: u90 :: u91 :: u92 :: u93 :: u94 :: u95 :: u96 :: u97 :: u98 :: u99 :: u100 :: u101 :: u102 :: u103 ::
   u104 :: u105 :: u106 :: u107 :: u108 :: u109 :: u110 :: u111 :: u112 :: u113 :: u114 :: u115 :: u116 :: u117 :: u118 :: u119 :: u120 :: u121 :: u122 :: u123 :: u124 :: u125 :: (.slice (some ⟨gv, 0, none⟩) l.length cv) :: (.int .i64 l.length) :: (.int .i64 0) ::
   u129 :: u130 :: u131 :: u132 :: u133 :: u134 :: u135 :: u136 :: u137 :: u138 :: u139 :: u140 :: u141 :: u142 :: u143 :: u144 :: u145 :: u146 :: u147 :: u148 :: u149 :: u150 :: u151 :: u152 :: u153 :: u154 :: u155 :: u156 :: u157 :: u158 :: u159 :: u160 :: u161 ::
   u162 :: u163 :: u164 :: u165 :: u166 :: u167 :: u168 :: u169 :: u170 :: u171 :: u172 :: u173 :: u174 :: u175 :: u176 :: u177 :: u178 :: u179 :: u180 :: u181 :: u182 :: u183 :: u184 :: u185 :: u186 :: u187 :: u188 :: u189 :: u190 :: u191 :: u192 :: u193 :: u194 ::
   u195 :: u196 :: u197 :: u198 :: u199 :: []), []⟩ w := by
 conv => arg 2; arg 1; whnf
 have hll := hide hl
 have hNN := hide hN
 clear hl hN
 go_loopw [128] (fun jj wr => ∃ (k : Nat) (vacc vbr : Value) (ac : List Bool) (t : List (List (List Nat))), jj = .int .i64 (k : Int) ∧ k ≤ l.length ∧ ac.length ≤ k ∧ t.length ≤ k ∧ k ≤ ac.length ∧ k ≤ t.length ∧
  OMach wb wr gb gm gM L k1 k3 k4 (.slice (some ⟨gv, 0, none⟩) l.length cv) l vacc vleaf vbr ac lf t ∧ Hid (ac = (l.take k).map acc) ∧ Hid (t = (l.take k).map fun p => ordLine l br L p)) (fun jj _ => l.length - (intOf jj).toNat)
 case atStart => exact ⟨0, _, _, [], [], rfl, Nat.zero_le _, by simp, by simp, by simp, by simp, hM, rfl, rfl⟩
 case round =>
  obtain ⟨k, vacc, vbr, ac, t, rfl, hk, ha1, ht1, ha2, ht2, hO, hac, htt⟩ := hrel
  have hcb := hO.ord.bld.blk.cell
  have hlen := hNN.out.len
  by_cases hlt : k < l.length
  ·obtain ⟨p, hp⟩ := get_lt hlt
   have hcp := own_cell hO.ord.bld.row (map_get (f := encN) hp)
   simp only [encN] at hcp
   have hpn := hNN.out.get hp
   have hpm := hide (List.mem_of_getElem? hp)
   have hsn := hide (take_snoc hp)
   have hwb := hO.ord.kept.size
   clear hp
   go_wp2_with fail
   refine ord_rows hC hL hn hO hpn hNN.out (fun x q hx hq => hll.out x p q hx hpm.out hq) ?_ ?_
   ·repeat (first | exact hNQ | refine Reg.NoQ.then ?_ | refine Reg.NoQ.inBlock ?_)
   iterate 39 (intro _)
   intro w2 vr hK2 hr2
   obtain ⟨Ar, nr, cr, rfl⟩ : ∃ Ar nr cr, vr = .slice Ar nr cr := by
    obtain ⟨_, _, h2, _⟩ := hr2
    obtain ⟨Ar, cr, e⟩ := slice_of_own h2
    exact ⟨Ar, _, cr, e⟩
   obtain ⟨us, hu⟩ := hO.tab.open
   have hsep : ∀ (i : Nat) (u : Value) (g : Nat), us[i]? = some u → u.ownBlock = some g → (Value.slice Ar nr cr).ownBlock = some g → False := fun i u g hui hg hv => by
    obtain ⟨r, hri⟩ := get_lt (l := t) (i := i) (by rw [← hu.len]; exact lt_of_get hui)
    obtain ⟨_, _, h2, _⟩ := hu.row i u r hui hri
    have h3 := own_lt h2 hg
    obtain ⟨_, _, h4, _⟩ := hr2
    have h5 := own_base h4 hv
    omega
   have hu2 := hu.keep hK2 (fun _ _ h => h.elim) (fun _ _ h => h.elim) (fun _ _ h => h)
   have hO2 := hO.keep0 hK2
   have hcm := hO2.blk.cell
   have hfm := hO2.blk.frozen
   have hgl := hO2.blk.lt
   have hrw := hide (hr2.weak hwb)
   have hwb2 := hO2.ord.kept.size
   obtain ⟨A, c, rfl⟩ := slice_of_own hu2.own
   have hsp := hide hsep
   clear hsep hr2
   go_wp2_with (at_builtin; refine wpList_app_new row80 rfl _ _ rfl wb.heap.size (.slice A t.length c) t.length us rfl hu2.own [.slice Ar nr cr] 1 rfl rfl (by simp [Value.oneCell']) (by omega) hwb2 ?_; intro g cap' w3 hown hk3 hmv3 hg3; have hm3 := hO2.blk.kept hk3 (fun e => own_blk_ne hu2.own hO2.blk (by decide) e); have hcm3 := hm3.cell; have hfm3 := hm3.frozen; have hgl3 := hm3.lt)
   have hO4 := hO2.line hu2 hrw.out hk3 hown hsp.out
   clear hcb hcm hcm3 hfm3 hgl3 hm3 hfm hgl hO2 hu2 hu hK2 hsp hrw hown hk3 hmv3 hcp hwb hwb2
   generalize w3.setCell ⟨gM, 3, none⟩ (.slice (some ⟨g, 0, none⟩) (t.length + 1) cap') = w4 at *
   have hcb4 := hO4.ord.bld.blk.cell
   have hcm4 := hO4.blk.cell
   obtain ⟨Aa, ca, rfl⟩ := slice_of_own hO4.acc
   refine Reg.region_cut [0, 0, 2, 6, 14, 0, 32, 96, 224, 0, 992, 2016, 4094, 8191, 16383, 32767] [0, 1, 2, 3, 4, 5, 6, 7, 8, 9, 10, 11, 12, 13, 14, 15] (by kernel_rfl) (by repeat (first | exact hNQ | refine Reg.NoQ.then ?_ | refine Reg.NoQ.inBlock ?_)) ?_
   refine Reg.rest_walk' [0, 1, 2, 3, 4, 5, 6, 7, 8, 9] [10, 11, 12, 13, 14, 15] rfl (by kernel_rfl) ?_
   intro Qf hQf
   go_wp2_with fail
   rw [List.filterMap_nil]
   go_wp2_with fail
   refine Reg.rest_act' 10 [11, 12, 13, 14, 15] [4] rfl (by kernel_rfl) ?_
   intro Qf hQf
   simp only [gT, gS, gZ]
   have hOd := hO4.keep0 ((Kept.refl w4 (fun _ => False)).drew)
   go_wp2_with (go_at_call 56; refine Calls.ret (hC.fa _ hOd.ord.kept p hpn) ?_; rintro u w5 ⟨rfl, hb5⟩)
   refine ⟨Reg.same_below hb5 [4] rfl, ?_⟩
   have hO5 := hOd.keep0 (Kept.of_below hb5 _)
   have hwb5 := hO5.ord.kept.size
   refine Reg.rest_walk' [11] [12, 13, 14, 15] rfl (by kernel_rfl) ?_
   intro Qf hQf
   go_wp2_with fail
   rw [List.filterMap_nil]
   go_wp2_with fail
   refine Reg.rest_act' 12 [13, 14, 15] [] rfl (by kernel_rfl) ?_
   intro Qf hQf
   simp only [gT, gS, gZ]
   refine wpList_app_new (w := w5) row79 rfl _ _ rfl wb.heap.size (.slice Aa ac.length ca) ac.length _ rfl hO5.acc [.bool (acc p)] 1 rfl rfl (by simp [Value.oneCell']) (by omega) hwb5 ?_
   intro g6 cap6 w6 hown6 hk6 hmv6 hg6
   have hm6 := hO5.blk.kept hk6 (fun e => own_blk_ne hO5.acc hO5.blk (by decide) e)
   have hcm6 := hm6.cell
   have hfm6 := hm6.frozen
   have hO6 := hO5.answer hk6 hown6
   refine hQf _ _ ⟨Reg.nm, ?_⟩
   clear hQf
   refine Reg.rest_walk' [13, 14, 15] [] rfl (by kernel_rfl) ?_
   intro Qf hQf
   go_wp2_with fail
   rw [List.filterMap_nil]
   go_wp2_with fail
   refine Reg.rest_end ?_
   go_wp2_with fail
   refine ⟨⟨k + 1, _, _, ac ++ [acc p], t ++ [ordLine l br L p], by simp, by omega, by simp; omega, by simp; omega, by simp; omega, by simp; omega, hO6, ?_, ?_⟩, by simp [intOf]; omega⟩
   ·show _ = _
    rw [hsn.out, List.map_append, ← hac.out]
    rfl
   ·show _ = _
    rw [hsn.out, List.map_append, ← htt.out]
    rfl
  ·have e : k = l.length := by omega
   have he := hide e
   clear e
   go_wp2_with fail
   have h1 := hac.out
   have h2 := htt.out
   rw [he.out, List.take_length] at h1 h2
   subst h1 h2
   exact hQ _ _ _ _ _ _ _ _ _ _ _ _ _ _ _ _ _ _ _ _ _ _ _ _ _ _ _ _ _ _ _ _ _ _ _ _ _ _ _ _ _ _ _ _ _ _ _ _ _ _ _ _ _ _ _ _ _ _ _ _ _ _ _ _ _ _ _ _ _ _ _ _ _ _ _ _ wr _ _ hO
end Go.Proofs.YtbjdgepfhhafjaaDoor
namespace Go.Proofs.YtbjdgepfhhafjaaDoor
open Go.RowKit
theorem ordered_any {wb : World} {gb L n : Nat} {k1 k3 k4 : Value} {leaf : Nat → Nat} {br : Nat → Nat → Nat → Nat} {acc : Nat → Bool} (hC : ClosI wb gb L n k1 k3 k4 leaf br acc) (h0 : 0 < L) (hL : L ≤ 8) (hn : n ≤ 20000)
  (hb : Blk wb gb 106 #[.int .i64 L, .int .i64 0, .map none, .slice none 0 0, .func (.func 55) #[] #[k3, k1], .func (.func 57) #[] #[k3, k1, k4], .func (.func 56) #[] #[k1, k4]]) :
  Calls Tryd.prog 58 #[.pointer (some ⟨gb, 0, none⟩)] wb (Ret fun v w' => Kept wb w' (fun k => k = gb) ∧ ∃ (gM : Nat) (l : List Nat), v = .pointer (some ⟨gM, 0, none⟩) ∧ wb.heap.size ≤ gM ∧
   Mach w' wb.heap.size gM L (l.map acc) (ordLeaf l leaf L) (ordTab l br L) ∧ Disc L leaf br l) := by
 obtain ⟨gm, w1, hmk, hmap, hb1, hgm⟩ := mkmap_facts 103 wb
 have hblk1 := hb.kept (Kept.of_below hb1 fun _ => False) id
 have hcb := hblk1.cell
 have hfb := hblk1.frozen
 have hgl := hblk1.lt
 have hO : OrdS wb (w1.setCell ⟨gb, 2, none⟩ (.map (some gm))) gb gm L k1 k3 k4 (.slice none 0 0) [] :=
  ⟨(Kept.of_below hb1 (fun k => k = gb)).setCell (p := ⟨gb, 2, none⟩) (fun _ => rfl) _, ⟨hblk1.set_ 2 _, hmap.kept ((Kept.refl w1 (fun k => k = gb)).setCell (p := ⟨gb, 2, none⟩) (fun _ => rfl) _) (fun e => blk_map_ne hblk1 hmap e.symm), own_nil⟩, hgm⟩
 have hcb2 := hO.bld.blk.cell 0
 go_enter Tryd.func58, Tryd.ntmps58
 go_wp2_with fail
 refine ord_leaves hC hL hn hO ?_
 iterate 13 (intro _)
 intro w2 vl2 hO2 hN2
 have hNN2 := hide hN2
 clear hO hcb hcb2 hfb hmk hN2
 go_wp2_with fail
 refine ord_rounds hC h0 hL hn hO2 hNN2.out ?_ ?_
 ·repeat (first | exact Reg.NoQ.body (fun _ _ h => h) (fun _ h => h) | refine Reg.NoQ.then ?_ | refine Reg.NoQ.inBlock ?_)
 iterate 56 (intro _)
 intro w3 vl3 l hO3 hN3 hD3
 have hNN3 := hide hN3
 have hDD := hide hD3
 have hcb3 := hO3.bld.blk.cell
 have hk3 := hO3.kept.size
 have hmem : ∀ s, s ∈ l ↔ Reach L leaf br s := hDD.out.mem
 have hMem := hide hmem
 have hM0 : OMach wb (w3.alloc (.cells #[.int .i64 L, .slice none 0 0, .slice none 0 0, .slice none 0 0] 79)) gb gm w3.heap.size L k1 k3 k4 vl3 l (.slice none 0 0) (.slice none 0 0) (.slice none 0 0) [] [] [] :=
  ⟨hO3.keep ((Kept.refl w3 (fun _ => False)).alloc _) (fun _ h => h.elim), Blk.new _ _ _, own_nil, own_nil, Tab.nil, fun k hk => by simp [Value.ownBlock] at hk, hk3⟩
 have hcb4 := hM0.ord.bld.blk.cell 0
 clear hN3 hD3 hmem
 go_wp2_with fail
 refine ord_lay hC hL hM0 (fun x hx => (hMem.out _).2 (.leaf x hx)) ?_ ?_
 ·repeat (first | exact Reg.NoQ.body (fun _ _ h => h) (fun _ h => h) | refine Reg.NoQ.then ?_ | refine Reg.NoQ.inBlock ?_)
 iterate 25 (intro _)
 intro w5 vleaf hM5
 have hls : 0 < l.length := List.length_pos_of_mem ((hMem.out _).2 (.leaf (leaf := leaf) (br := br) 0 h0))
 obtain ⟨s0, hs0⟩ := get_lt hls
 obtain ⟨gv, cv, rfl, -⟩ := own_get hM5.ord.bld.row (map_get (f := encN) hs0)
 have hcb5 := hM5.ord.bld.blk.cell
 clear hs0 hcb4 hM0 hcb3
 go_wp2_with fail
 refine ord_lines hC hL hn hM5 hNN3.out (fun x p q hx hp hq => (hMem.out _).2 (.br x p q hx ((hMem.out _).1 hp) ((hMem.out _).1 hq))) ?_ ?_
 ·repeat (first | exact Reg.NoQ.body (fun _ _ h => h) (fun _ h => h) | refine Reg.NoQ.then ?_ | refine Reg.NoQ.inBlock ?_)
 iterate 76 (intro _)
 intro w6 vacc vbr hM6
 have hMM := hide hM6
 clear hM6
 go_wp2_with fail
 go_ret
 exact ⟨hMM.out.ord.kept, w3.heap.size, l, rfl, hk3, ⟨vacc, vleaf, vbr, hMM.out.blk, hMM.out.acc, hMM.out.lfs, hMM.out.tab⟩, hDD.out⟩
end Go.Proofs.YtbjdgepfhhafjaaDoor
namespace Go.Proofs.YtbjdgepfhhafjaaDoor
theorem f2_range {l : List Nat} (hn : l.Nodup) {m : List Nat} (h : F2 (fun s i => l[i]? = some s) l m) : m = List.range l.length := by
 apply List.ext_getElem?
 intro i
 have hl := h.length
 by_cases hi : i < l.length
 ·obtain ⟨j, hj⟩ := get_lt (l := m) (i := i) (by omega)
  obtain ⟨s, hs⟩ := get_lt hi
  have h1 := h.get hs hj
  have : j = i := (List.getElem?_inj (lt_of_get h1) hn).1 (h1.trans hs.symm)
  subst this
  rw [hj, List.getElem?_range hi]
 ·rw [List.getElem?_eq_none (by omega), List.getElem?_eq_none (by simp; omega)]
theorem disc_idx {L : Nat} {leaf leaf' : Nat → Nat} {br br' : Nat → Nat → Nat → Nat} {l : List Nat} (h : Disc L leaf br l) (hl : ∀ x, x < L → l[leaf' x]? = some (leaf x)) (hb : ∀ x i j s u, x < L → l[i]? = some s → l[j]? = some u → l[br' x i j]? = some (br x s u)) :
  Disc L leaf' br' (List.range l.length) := by
 have hn := h.nodup
 have hR : OneOne (fun s i => l[i]? = some s) := fun a b a' b' h1 h2 => by
  constructor
  ·rintro rfl
   exact (List.getElem?_inj (lt_of_get h1) hn).1 (h1.trans h2.symm)
  ·rintro rfl
   exact Option.some.inj (h1.symm.trans h2)
 have hbb : ∀ x a b c d, x < L → l[c]? = some a → l[d]? = some b → l[br' x c d]? = some (br x a b) := fun x a b c d hx h1 h2 => hb x c d a b hx h1 h2
 obtain ⟨⟨k, hk⟩, hfix⟩ := h
 have h1 := roundsL_rel (br := br) (br' := br') hR hbb k (leafL_rel hR hl)
 rw [← hk] at h1
 have h2 := f2_range hn h1
 refine ⟨⟨k, h2.symm⟩, ?_⟩
 rw [h2] at h1
 have h3 := roundL_rel (br := br) (br' := br') hR hbb h1
 rw [hfix] at h3
 exact f2_range hn h3
structure Rep (n : Nat) (cl so : List Nat) : Prop where
 lt : ∀ c, so.getD c 0 < n
 cls : ∀ i, i < n → cl.getD (so.getD (cl.getD i 0) 0) 0 = cl.getD i 0
section
variable {L : Nat} {ac : List Bool} {lf cl so : List Nat} {t : List (List (List Nat))}
def cLeaf (cl lf : List Nat) (x : Nat) : Nat := cl.getD (mleaf lf x) 0
def cBr (cl so : List Nat) (t : List (List (List Nat))) (x p q : Nat) : Nat := cl.getD (mbr t x (so.getD p 0) (so.getD q 0)) 0
def cAcc (ac : List Bool) (so : List Nat) (c : Nat) : Bool := macc ac (so.getD c 0)
theorem ClsD.inf (h : ClsD L ac.length (mbr t) (macc ac) (-1) cl) {i j : Nat} (hi : i < ac.length) (hj : j < ac.length) : cl.getD i 0 = cl.getD j 0 ↔ ∀ r, EqS L ac.length (mbr t) (macc ac) r i j := by
 rw [h.iff i j hi hj]
 unfold EqD
 rw [if_pos (by omega)]
theorem cls_run (hok : MOK L ac lf t) (hc : ClsD L ac.length (mbr t) (macc ac) (-1) cl) (hs : Rep ac.length cl so) : ∀ tr : Tr, tr.ok L → runT (cLeaf cl lf) (cBr cl so t) tr = cl.getD (runT (mleaf lf) (mbr t) tr) 0
 | .leaf x, _ => rfl
 | .node x s u, h => by
  show cBr cl so t x _ _ = _
  rw [cls_run hok hc hs s h.2.1, cls_run hok hc hs u h.2.2]
  have h1 := hok.isM.run_lt s h.2.1
  have h2 := hok.isM.run_lt u h.2.2
  show cBr cl so t x (cl.getD (runT (mleaf lf) (mbr t) s) 0) (cl.getD (runT (mleaf lf) (mbr t) u) 0) = cl.getD (mbr t x (runT (mleaf lf) (mbr t) s) (runT (mleaf lf) (mbr t) u)) 0
  generalize runT (mleaf lf) (mbr t) s = p at *
  generalize runT (mleaf lf) (mbr t) u = q at *
  have hp' := hs.lt (cl.getD p 0)
  have hq' := hs.lt (cl.getD q 0)
  have e1 := (hc.inf hp' h1).1 (hs.cls p h1)
  have e2 := (hc.inf hq' h2).1 (hs.cls q h2)
  unfold cBr
  generalize so.getD (cl.getD p 0) 0 = p' at *
  generalize so.getD (cl.getD q 0) 0 = q' at *
  have f1 : cl.getD (mbr t x p' q') 0 = cl.getD (mbr t x p q') 0 := (hc.inf (hok.isM.br_lt x p' q' h.1 hp' hq') (hok.isM.br_lt x p q' h.1 h1 hq')).2 fun r => ((e1 (r + 1)).2 x h.1 q' hq').1
  have f2 : cl.getD (mbr t x p q') 0 = cl.getD (mbr t x p q) 0 := (hc.inf (hok.isM.br_lt x p q' h.1 h1 hq') (hok.isM.br_lt x p q h.1 h1 h2)).2 fun r => ((e2 (r + 1)).2 x h.1 p h1).2
  exact f1.trans f2
theorem canon_of {l : List Nat} (hok : MOK L ac lf t) (hc : ClsD L ac.length (mbr t) (macc ac) (-1) cl) (hs : Rep ac.length cl so) (hD : Disc L (cLeaf cl lf) (cBr cl so t) l) :
  MOK L (l.map (cAcc ac so)) (ordLeaf l (cLeaf cl lf) L) (ordTab l (cBr cl so t) L) ∧
  Canon L (l.map (cAcc ac so)).length (mleaf (ordLeaf l (cLeaf cl lf) L)) (mbr (ordTab l (cBr cl so t) L)) (macc (l.map (cAcc ac so))) (fun tr => macc ac (runT (mleaf lf) (mbr t) tr)) := by
 have hmem := hD.mem
 have hlo : LeafOK (cLeaf cl lf) l (ordLeaf l (cLeaf cl lf) L) := ordLeaf_ok fun x hx => (hmem _).2 (.leaf x hx)
 have hto : TabOK L (cBr cl so t) l (fun _ => l.length) (ordTab l (cBr cl so t) L) := ordTab_ok fun x p q hx hp hq => (hmem _).2 (.br x p q hx ((hmem p).1 hp) ((hmem q).1 hq))
 have hll : (ordLeaf l (cLeaf cl lf) L).length = L := by simp [ordLeaf]
 have htl : (ordTab l (cBr cl so t) L).length = l.length := by simp [ordTab]
 obtain ⟨h1, h2, h3⟩ := built_ok (acc := cAcc ac so) hD.nodup (fun s hs => (hmem s).1 hs) hll hlo hto htl
 obtain ⟨g1, g2⟩ := built_get hll hlo hto htl
 refine ⟨h1, ⟨h1.isM, fun tr htr => ?_, fun tr u htr hu he => ?_, ?_⟩⟩
 ·rw [h3 tr htr, cls_run hok hc hs tr htr]
  have hlt := hok.isM.run_lt tr htr
  exact (hc.inf (hs.lt _) hlt).1 (hs.cls _ hlt) 0
 ·have e : cl.getD (runT (mleaf lf) (mbr t) tr) 0 = cl.getD (runT (mleaf lf) (mbr t) u) 0 := (hc.inf (hok.isM.run_lt tr htr) (hok.isM.run_lt u hu)).2 fun r => (hok.isM.eqS r tr u htr hu).1 (he r)
  have e1 := h2 tr htr
  have e2 := h2 u hu
  rw [cls_run hok hc hs tr htr] at e1
  rw [cls_run hok hc hs u hu, ← e] at e2
  exact (List.getElem?_inj (lt_of_get e1) hD.nodup).1 (e1.trans e2.symm)
 ·have := disc_idx hD g1 g2
  simpa using this
end
end Go.Proofs.YtbjdgepfhhafjaaDoor
namespace Go.Proofs.YtbjdgepfhhafjaaDoor
open Go.RowKit
structure MinS (w : World) (base base2 gM g1 g3 g4 go gs L : Nat) (vacc vleaf vbr : Value) (ac : List Bool) (lf cl so : List Nat) (t : List (List (List Nat))) : Prop where
 mach : MachA w base gM L vacc vleaf vbr ac lf t
 v1 : Blk w g1 56 #[.pointer (some ⟨gM, 0, none⟩)]
 v3 : Blk w g3 24 #[.slice (some ⟨go, 0, none⟩) ac.length ac.length]
 v4 : Blk w g4 24 #[.slice (some ⟨gs, 0, none⟩) ac.length ac.length]
 cls : w.ownsRow base2 3 1 (.slice (some ⟨go, 0, none⟩) ac.length ac.length) ac.length (cl.map encN)
 rep : w.ownsRow base2 3 1 (.slice (some ⟨gs, 0, none⟩) ac.length ac.length) ac.length (so.map encN)
theorem MinS.kept {w w' : World} {base base2 gM g1 g3 g4 go gs L : Nat} {vacc vleaf vbr : Value} {ac : List Bool} {lf cl so : List Nat} {t : List (List (List Nat))} (h : MinS w base base2 gM g1 g3 g4 go gs L vacc vleaf vbr ac lf cl so t) (hk : Kept w w' (fun _ => False)) : MinS w' base base2 gM g1 g3 g4 go gs L vacc vleaf vbr ac lf cl so t :=
 ⟨h.mach.keep hk (fun _ _ _ h => h.elim), h.v1.kept hk id, h.v3.kept hk id, h.v4.kept hk id, own_ty hk h.cls (fun _ _ h => h.elim), own_ty hk h.rep (fun _ _ h => h.elim)⟩
theorem row_at {w : World} {base g n c : Nat} {l : List Nat} (h : w.ownsRow base 3 1 (.slice (some ⟨g, 0, none⟩) n c) n (l.map encN)) {i : Nat} (hi : i < n) : w.cell? ⟨g, i, none⟩ = some (.int .i64 (l.getD i 0 : Int)) := by
 have hl : l.length = n := by simpa using h.1
 obtain ⟨x, hx⟩ := get_lt (l := l) (i := i) (by omega)
 rw [getD_some hx]
 exact own_cell h (map_get (f := encN) hx)
theorem drew_below (w : World) : Below w.heap.size w w.drew := ⟨rfl, rfl, rfl, Nat.le_refl _, fun _ _ => rfl⟩
section
variable {w : World} {base base2 gM g1 g3 g4 go gs L : Nat} {vacc vleaf vbr : Value} {ac : List Bool} {lf cl so : List Nat} {t : List (List (List Nat))}
theorem min1_any (h : MinS w base base2 gM g1 g3 g4 go gs L vacc vleaf vbr ac lf cl so t) (hok : MOK L ac lf t) (hL : L ≤ 8) (_ : ac.length ≤ 20000) (x : Nat) (hx : x < L) :
  Calls Tryd.prog 55 #[.int .i64 (x : Int), .pointer (some ⟨g3, 0, none⟩), .pointer (some ⟨g1, 0, none⟩)] w (Ret fun v w'' => v = .int .i64 (cLeaf cl lf x : Int) ∧ Below w.heap.size w w'') := by
 have hc1 := h.v1.cell 0
 have hc3 := h.v3.cell 0
 have hcm := h.mach.blk.cell
 obtain ⟨A, c, rfl⟩ := slice_of_own h.mach.lfs
 have hll := hide hok.lfl
 obtain ⟨e, he⟩ := get_lt (l := lf) (i := x) (by rw [hll.out]; exact hx)
 obtain ⟨gl, cl', hv, hce⟩ := own_get h.mach.lfs (map_get (f := encN) he)
 injection hv with hA _ hc
 subst hA hc
 have hle : x < lf.length := lt_of_get he
 have hll8 : lf.length ≤ 8 := by rw [hll.out]; exact hL
 have hme : mleaf lf x = e := getD_some he
 have hen : e < ac.length := by rw [← hme]; exact hok.isM.leaf_lt x hx
 have hcc := row_at h.cls hen
 have hfin := hide (show cLeaf cl lf x = cl.getD e 0 by unfold cLeaf; rw [hme])
 have hst := drew_below w
 simp only [encN] at hce
 clear he hme
 go_enter Tryd.func55, Tryd.ntmps55
 go_wp2_with fail
 refine Reg.region_plain [0, 0, 2, 6, 14, 0, 62, 126, 255, 511, 1023] (by kernel_rfl) (Reg.NoQ.then (Reg.NoQ.body (fun _ _ h => h) (fun _ h => h))) ?_
 go_wp2_with fail
 go_ret
 exact ⟨by rw [hfin.out]; rfl, hst⟩
theorem min2_any (h : MinS w base base2 gM g1 g3 g4 go gs L vacc vleaf vbr ac lf cl so t) (hs : ∀ c, so.getD c 0 < ac.length) (_ : ac.length ≤ 20000) (c : Nat) (hc : c < ac.length) :
  Calls Tryd.prog 56 #[.int .i64 (c : Int), .pointer (some ⟨g1, 0, none⟩), .pointer (some ⟨g4, 0, none⟩)] w (Ret fun v w'' => v = .bool (cAcc ac so c) ∧ Below w.heap.size w w'') := by
 have hc1 := h.v1.cell 0
 have hc4 := h.v4.cell 0
 have hcm := h.mach.blk.cell
 have hsc := hs c
 have hcr := row_at h.rep hc
 have hfin := hide (show cAcc ac so c = macc ac (so.getD c 0) from rfl)
 generalize so.getD c 0 = e at *
 obtain ⟨b, hb⟩ := get_lt hsc
 obtain ⟨ga, ca, rfl, hcb⟩ := own_get h.mach.acc (map_get (f := Value.bool) hb)
 have hmb := hide (show macc ac e = b from getD_some hb)
 have hst := drew_below w
 clear hb
 go_enter Tryd.func56, Tryd.ntmps56
 go_wp2_with fail
 refine Reg.region_plain [0, 1, 3, 7, 0, 0, 48, 112, 255, 511, 1023] (by kernel_rfl) (Reg.NoQ.then (Reg.NoQ.body (fun _ _ h => h) (fun _ h => h))) ?_
 go_wp2_with fail
 go_ret
 exact ⟨by rw [hfin.out, hmb.out]; rfl, hst⟩
theorem min3_any (h : MinS w base base2 gM g1 g3 g4 go gs L vacc vleaf vbr ac lf cl so t) (hok : MOK L ac lf t) (hs : ∀ c, so.getD c 0 < ac.length) (_ : L ≤ 8) (_ : ac.length ≤ 20000) (x p q : Nat) (hx : x < L) (hp : p < ac.length) (hq : q < ac.length) :
  Calls Tryd.prog 57 #[.int .i64 (x : Int), .int .i64 (p : Int), .int .i64 (q : Int), .pointer (some ⟨g3, 0, none⟩), .pointer (some ⟨g1, 0, none⟩), .pointer (some ⟨g4, 0, none⟩)] w (Ret fun v w'' => v = .int .i64 (cBr cl so t x p q : Int) ∧ Below w.heap.size w w'') := by
 have hc1 := h.v1.cell 0
 have hc3 := h.v3.cell 0
 have hc4 := h.v4.cell 0
 have hcm := h.mach.blk.cell
 have hsp := hs p
 have hsq := hs q
 have hcp := row_at h.rep hp
 have hcq := row_at h.rep hq
 have hfin := hide (show cBr cl so t x p q = cl.getD (mbr t x (so.getD p 0) (so.getD q 0)) 0 from rfl)
 generalize so.getD p 0 = p' at *
 generalize so.getD q 0 = q' at *
 obtain ⟨gv, cv, gi, ci, gj, cj, rfl, h1, h2, h3⟩ := h.mach.at hok hsp hsq hx
 have hbn : mbr t x p' q' < ac.length := hok.isM.br_lt x p' q' hx hsp hsq
 have hcc := row_at h.cls hbn
 have hst := drew_below w
 go_enter Tryd.func57, Tryd.ntmps57
 go_wp2_with fail
 refine Reg.region_plain [0, 0, 2, 6, 14, 0, 0, 96, 224, 510, 1022, 0, 0, 6144, 14336, 32766, 65534, 0, 262142, 524286, 1048575, 2097151, 4194303] (by kernel_rfl) (Reg.NoQ.then (Reg.NoQ.body (fun _ _ h => h) (fun _ h => h))) ?_
 go_wp2_with fail
 go_ret
 exact ⟨by rw [hfin.out]; rfl, hst⟩
end
theorem min_clos {w wb : World} {base base2 gM g1 g3 g4 go gs L : Nat} {vacc vleaf vbr : Value} {ac : List Bool} {lf cl so : List Nat} {t : List (List (List Nat))} (h : MinS w base base2 gM g1 g3 g4 go gs L vacc vleaf vbr ac lf cl so t) (hok : MOK L ac lf t) (hL : L ≤ 8) (hn : ac.length ≤ 20000)
  (hs : ∀ c, so.getD c 0 < ac.length) (hc : ∀ i, i < ac.length → cl.getD i 0 < ac.length) (hkb : Kept w wb (fun _ => False)) :
  ClosI wb w.heap.size L ac.length (.pointer (some ⟨g1, 0, none⟩)) (.pointer (some ⟨g3, 0, none⟩)) (.pointer (some ⟨g4, 0, none⟩)) (cLeaf cl lf) (cBr cl so t) (cAcc ac so) := by
 have keep : ∀ w', Kept wb w' (fun k => k = w.heap.size) → Kept w w' (fun _ => False) := fun w' hk => hkb.trans hk fun b hb e => by omega
 exact ⟨fun w' hk x hx => min1_any (h.kept (keep w' hk)) hok hL hn x hx, fun w' hk x s u hx hs1 hs2 => min3_any (h.kept (keep w' hk)) hok hs hL hn x s u hx hs1 hs2, fun w' hk s hs1 => min2_any (h.kept (keep w' hk)) hs hn s hs1,
  fun x hx => hc _ (hok.isM.leaf_lt x hx), fun x s u hx _ _ => hc _ (hok.isM.br_lt x _ _ hx (hs s) (hs u))⟩
end Go.Proofs.YtbjdgepfhhafjaaDoor
namespace Go.Proofs.YtbjdgepfhhafjaaDoor
open Go.RowKit
structure RepK (n k : Nat) (cl so : List Nat) : Prop where
 len : so.length = n
 lt : ∀ c, so.getD c 0 < n
 cls : ∀ i, k ≤ i → i < n → cl.getD (so.getD (cl.getD i 0) 0) 0 = cl.getD i 0
theorem getD_set {l : List Nat} {c v d : Nat} (hc : c < l.length) : (l.set c v).getD d 0 = if d = c then v else l.getD d 0 := by
 rw [List.getD_eq_getElem?_getD, List.getD_eq_getElem?_getD]
 by_cases h : d = c
 ·subst h
  rw [List.getElem?_set_self hc, if_pos rfl]
  rfl
 ·rw [List.getElem?_set_ne (fun e => h e.symm), if_neg h]
theorem RepK.start {n : Nat} (hn : 0 < n) (cl : List Nat) : RepK n n cl (List.replicate n 0) :=
 ⟨by simp, fun c => by rw [List.getD_eq_getElem?_getD, List.getElem?_replicate]; split <;> simpa using hn, fun i h1 h2 => by omega⟩
theorem RepK.step {n k : Nat} {cl so : List Nat} (h : RepK n (k + 1) cl so) (hk : k < n) (hc : cl.getD k 0 < n) : RepK n k cl (so.set (cl.getD k 0) k) := by
 have hcl : cl.getD k 0 < so.length := by rw [h.len]; exact hc
 refine ⟨by simp [h.len], fun c => ?_, fun i h1 h2 => ?_⟩
 ·rw [getD_set hcl]
  split
  ·exact hk
  ·exact h.lt c
 ·rw [getD_set hcl]
  split
  ·rename_i e
   exact e.symm
  ·rename_i e
   have hik : i ≠ k := fun e2 => e (by rw [e2])
   exact h.cls i (by omega) h2
theorem min_reps {w : World} {base g3 g4 go gs n : Nat} {cl so : List Nat} (h3 : Blk w g3 24 #[.slice (some ⟨go, 0, none⟩) n n]) (h4 : Blk w g4 24 #[.slice (some ⟨gs, 0, none⟩) n n]) (hcl : w.ownsRow base 3 1 (.slice (some ⟨go, 0, none⟩) n n) n (cl.map encN)) (hn : n ≤ 20000) (hcn : ∀ i, i < n → cl.getD i 0 < n)
  (hs : Blk w gs 3 (so.map encN).toArray) (hne : go ≠ gs) (hR : RepK n n cl so)
  {u0 u1 u2 u6 u7 u8 u9 u10 u11 u12 u13 u14 u15 u16 u17 u18 u19 u20 u21 u22 u23 u24 u25 u26 u27 u28 u29 u30 u31 u32 u33 u34 u35 : Value}
  {Q : Exit → Act → World → Prop} (hNQ : Reg.NoQ Q)
  (hQ : ∀ (x5 x15 x16 x17 x18 x19 x20 x21 x22 x23 x24 x25 : Value) (w' : World) (so' : List Nat), Kept w w' (fun k => k = gs) → Blk w' gs 3 (so'.map encN).toArray → RepK n 0 cl so' →
   Q (.exit 0) ⟨List.toArray (u0 :: u1 :: u2 :: (.pointer (some ⟨g3, 0, none⟩)) :: (.pointer (some ⟨g4, 0, none⟩)) :: x5 :: u6 :: u7 :: u8 :: u9 :: u10 :: u11 :: u12 :: u13 :: u14 :: x15 :: x16 :: x17 :: x18 :: x19 :: x20 :: x21 :: x22 :: x23 :: x24 :: x25 :: u26 :: u27 :: u28 :: u29 ::
   u30 :: u31 :: u32 :: u33 :: u34 :: u35 :: []), []⟩ w') :
  (Code.loop (loopBody Tryd.f36 0)).wp Tryd.prog Q ⟨List.toArray (u0 :: u1 :: u2 :: (.pointer (some ⟨g3, 0, none⟩)) :: (.pointer (some ⟨g4, 0, none⟩)) :: (.int .i64 ((n : Int) - 1)) :: u6 :: u7 :: u8 :: u9 :: u10 :: u11 :: u12 :: u13 :: u14 :: u15 :: u16 :: u17 :: u18 :: u19 :: u20 :: u21 :: u22 :: u23 :: u24 :: u25 :: u26 ::
   u27 :: u28 :: u29 :: u30 :: u31 :: u32 :: u33 :: u34 :: u35 :: []), []⟩ w := by
 conv => arg 2; arg 1; whnf
 go_loopw [5] (fun ii wr => ∃ (k : Nat) (so' : List Nat), ii = .int .i64 ((k : Int) - 1) ∧ k ≤ n ∧ Kept w wr (fun k => k = gs) ∧ Blk wr gs 3 (so'.map encN).toArray ∧ Hid (RepK n k cl so')) (fun ii _ => (intOf ii + 1).toNat)
 case atStart => exact ⟨n, so, rfl, Nat.le_refl _, Kept.refl _ _, hs, hR⟩
 case round =>
  obtain ⟨k, so', rfl, hk, hK, hB, hRR⟩ := hrel
  have h3' := h3.kept hK (fun e => h3.ne_ hs (by decide) e)
  have h4' := h4.kept hK (fun e => h4.ne_ hs (by decide) e)
  have hc3 := h3'.cell 0
  have hc4 := h4'.cell 0
  cases k with
  | zero =>
   go_wp2_with fail
   exact hQ _ _ _ _ _ _ _ _ _ _ _ _ wr so' hK hB hRR.out
  | succ k =>
   have hcl' : wr.ownsRow base 3 1 (.slice (some ⟨go, 0, none⟩) n n) n (cl.map encN) := hK.ownsRow hcl (fun g hg e => hne (by
    have : go = g := by simpa [Value.ownBlock] using hg
    rw [this, e]))
   have hck := row_at hcl' (i := k) (by omega)
   have hcb := hcn k (by omega)
   have hst := hide (hRR.out.step (by omega) hcb)
   have hsl := hide hRR.out.len
   generalize cl.getD k 0 = c at *
   have hcs : wr.cell? ⟨gs, c, none⟩ = some (.int .i64 (so'.getD c 0 : Int)) := by
    rw [hB.cell]
    obtain ⟨x, hx⟩ := get_lt (l := so') (i := c) (by rw [hsl.out]; exact hcb)
    rw [getD_some hx]
    simp [hx, encN]
   have hfs := hB.frozen c
   have hgl := hB.lt
   have hkn : (0 : Int) ≤ (k : Int) := by omega
   have hkc : ((k + 1 : Nat) : Int) - 1 = (k : Int) := by omega
   rw [hkc]
   have hkk := hide hkc
   clear hkc
   go_wp2_with fail
   refine Reg.region_plain [0, 0, 0, 6, 14, 0, 63, 127] (by kernel_rfl) (by repeat (first | exact hNQ | refine Reg.NoQ.then ?_ | refine Reg.NoQ.inBlock ?_)) ?_
   go_wp2_with fail
   refine ⟨⟨k, so'.set c k, rfl, by omega, (hK.setCell (p := ⟨gs, c, none⟩) (fun _ => rfl) _).drew, ?_, hst.out⟩, by simp [intOf]⟩
   have := hB.set_ c (.int .i64 (k : Int))
   rw [List.map_set]
   have h2 : Blk (wr.setCell ⟨gs, c, none⟩ (.int .i64 (k : Int))) gs 3 ((so'.map encN).set c (.int .i64 (k : Int))).toArray := by simpa using this
   exact h2
theorem minimal_any {w : World} {base gM L : Nat} {vacc vleaf vbr : Value} {ac : List Bool} {lf : List Nat} {t : List (List (List Nat))} (hM : MachA w base gM L vacc vleaf vbr ac lf t) (hok : MOK L ac lf t) (h0 : 0 < L) (hL : L ≤ 8) (hn : ac.length ≤ 20000) (hn0 : 0 < ac.length) :
  Calls Tryd.prog 36 #[.pointer (some ⟨gM, 0, none⟩)] w (Ret fun v w' => Below w.heap.size w w' ∧ ∃ (gM' : Nat) (ac' : List Bool) (lf' : List Nat) (t' : List (List (List Nat))), v = .pointer (some ⟨gM', 0, none⟩) ∧ w.heap.size ≤ gM' ∧ Mach w' w.heap.size gM' L ac' lf' t' ∧ MOK L ac' lf' t' ∧
   ac'.length ≤ ac.length ∧ Canon L ac'.length (mleaf lf') (mbr t') (macc ac') (fun tr => macc ac (runT (mleaf lf) (mbr t) tr))) := by
 obtain ⟨w1, hw1, hb1, hB1, hk1⟩ := box_blk w #[.pointer (some ⟨gM, 0, none⟩)] 56
 have hM1 := hM.keep hk1 (fun _ _ _ h => h.elim)
 have hok2 := hide hok
 have hc1 := hB1.cell 0
 have hsz1 := hB1.lt
 clear hok
 go_enter Tryd.func36, Tryd.ntmps36
 go_wp2_with (first
  | (go_at_call 54; refine Calls.ret (classes_any (d := -1) hM1 hok2.out hL hn hn0) ?_; rintro v w2 ⟨hb2, go, cl, rfl, hcl, hC⟩; have hCC := hide hC; have hB2 := hB1.below hb2; have hk2 := Kept.of_below hb2 (fun _ => False); have hM2 := hM1.keep hk2 (fun _ _ _ h => h.elim); have hM3 := hM2.keep ((Kept.refl w2 (fun _ => False)).alloc (.cells #[.slice (some ⟨go, 0, none⟩) ac.length ac.length] 24)) (fun _ _ _ h => h.elim); have hc2 := (hB2.kept ((Kept.refl w2 (fun _ => False)).alloc (.cells #[.slice (some ⟨go, 0, none⟩) ac.length ac.length] 24)) id).cell 0; clear hC)
  | (go_at_call 37; refine (states_any hM3 hn).mono ?_; rintro e w' ⟨rfl, rfl⟩; obtain ⟨gs, w4, hmk, hrow, hb4, hgs⟩ := mk_row (w2.alloc (.cells #[.slice (some ⟨go, 0, none⟩) ac.length ac.length] 24)) ac.length (by omega); have hc3 := (((Blk.new w2 24 #[.slice (some ⟨go, 0, none⟩) ac.length ac.length]).below hb4).kept ((Kept.refl w4 (fun _ => False)).alloc (.cells #[.slice (some ⟨gs, 0, none⟩) ac.length ac.length] 24)) id).cell 0))
 obtain ⟨w5, hw5, hb5, hB5, hk5⟩ := box_blk w4 #[.slice (some ⟨gs, 0, none⟩) ac.length ac.length] 24
 rw [hw5]
 have hgs2 : w2.heap.size + 1 ≤ gs := by simpa using hgs
 have hsz2 := hb2.size
 have hK25 : Kept w2 w5 (fun _ => False) := (((Kept.refl w2 (fun _ => False)).alloc (.cells #[.slice (some ⟨go, 0, none⟩) ac.length ac.length] 24)).trans (Kept.of_below hb4 (fun _ => False)) (fun _ _ h => h)).trans hk5 (fun _ _ h => h)
 have hcl5 := own_ty hK25 hcl (fun _ _ h => h.elim)
 have h35 : Blk w5 w2.heap.size 24 #[.slice (some ⟨go, 0, none⟩) ac.length ac.length] := ((Blk.new w2 24 #[.slice (some ⟨go, 0, none⟩) ac.length ac.length]).below hb4).kept hk5 id
 have hr5 : Blk w5 gs 3 ((List.replicate ac.length 0).map encN).toArray := by
  have := hrow.kept hk5 id
  simpa [encN] using this
 have hgone : go ≠ gs := by
  have := own_lt (k := go) hcl rfl
  omega
 have hR5 := RepK.start hn0 cl
 have hCl := hide hCC.out.lt
 clear hw5 hw1 hmk hc1 hc2 hc3
 refine min_reps h35 hB5 hcl5 hn hCl.out hr5 hgone hR5 ?_ ?_
 ·repeat (first | exact Reg.NoQ.body (fun _ _ h => h) (fun _ h => h) | refine Reg.NoQ.then ?_ | refine Reg.NoQ.inBlock ?_)
 iterate 12 (intro _)
 intro w6 so hk6 hB6 hR6
 have hK26 : Kept w2 w6 (fun _ => False) := hK25.trans hk6 (fun b hb e => by omega)
 have hK16 : Kept w1 w6 (fun _ => False) := hk2.trans hK26 (fun _ _ h => h)
 have hK06 : Kept w w6 (fun _ => False) := hk1.trans hK16 (fun _ _ h => h)
 have hS : MinS w6 base w.heap.size gM w.heap.size w2.heap.size w4.heap.size go gs L vacc vleaf vbr ac lf cl so t := by
  refine ⟨hM.keep hK06 (fun _ _ _ h => h.elim), hB1.kept hK16 id, h35.kept hk6 (by omega), hB5.kept hk6 (fun e => hB5.ne_ hr5 (by decide) e), own_weak (own_ty hK26 hcl (fun _ _ h => h.elim)) (by omega), ?_⟩
  have := own_of_blk (n := ac.length) hB6 (base := w.heap.size) (by omega) (by simp [hR6.len]) (by omega)
  simpa using this
 have hSS := hide hS
 have hRR := hide hR6
 have hcm := hS.mach.blk.cell
 have hcv1 := hS.v1.cell 0
 have hszw := hK06.size
 clear hS hR6 hR5 hr5 hrow hcl5 hcl hB1 hB2 hB5 h35 hM1 hM2 hM3 hb1 hb2 hb4 hb5 hk1 hk2 hk5 hk6 hK25 hK26 hK16 hB6
 go_wp2_with fail
 have hkb : Kept w6 (w6.alloc (.cells #[.int .i64 L, .int .i64 0, .map none, .slice none 0 0, .func (.func 55) #[] #[.pointer (some ⟨w2.heap.size, 0, none⟩), .pointer (some ⟨w.heap.size, 0, none⟩)],
  .func (.func 57) #[] #[.pointer (some ⟨w2.heap.size, 0, none⟩), .pointer (some ⟨w.heap.size, 0, none⟩), .pointer (some ⟨w4.heap.size, 0, none⟩)], .func (.func 56) #[] #[.pointer (some ⟨w.heap.size, 0, none⟩), .pointer (some ⟨w4.heap.size, 0, none⟩)]] 106)) (fun _ => False) := (Kept.refl _ _).alloc _
 refine Calls.ret (ordered_any (min_clos hSS.out hok2.out hL hn hRR.out.lt hCl.out hkb) h0 hL hn (Blk.new w6 106 _)) ?_
 rintro v w7 ⟨hk7, gM', l, rfl, hgM', hMM, hD⟩
 have hMM2 := hide hMM
 have hD2 := hide hD
 have hK07 : Kept w w7 (fun _ => False) := hK06.trans (hkb.trans hk7 (fun b hb e => by omega)) (fun _ _ h => h)
 clear hcm hcv1 hMM hD hkb hk7
 have hgM2 : w6.heap.size ≤ gM' := Nat.le_trans (by simp) hgM'
 clear hgM'
 go_wp2_with fail
 go_ret
 have hrep : Rep ac.length cl so := ⟨hRR.out.lt, fun i hi => hRR.out.cls i (Nat.zero_le _) hi⟩
 obtain ⟨h1, h2⟩ := canon_of hok2.out hCC.out hrep hD2.out
 refine ⟨hK07.below (Nat.le_refl _) (fun _ _ h => h), gM', _, _, _, rfl, by omega, hMM2.out.weak (by simp; omega), h1, ?_, h2⟩
 have hlt : ∀ s ∈ l, s < ac.length := fun s hs => by
  obtain ⟨tr, htr, rfl⟩ := reach_run.1 ((hD2.out.mem s).1 hs)
  rw [cls_run hok2.out hCC.out hrep tr htr]
  exact hCl.out _ (hok2.out.isM.run_lt tr htr)
 have := sub_len l (List.range ac.length) hD2.out.nodup (fun a ha => List.mem_range.2 (hlt a ha))
 simpa using this
end Go.Proofs.YtbjdgepfhhafjaaDoor
namespace Go.Proofs.YtbjdgepfhhafjaaDoor
open Go.RowKit
def TA.lang (a : TA) (tr : Tr) : Bool := a.accS (runT a.leafS a.brS tr)
def TA.Large (a : TA) : Prop := ∃ l : List Nat, l.Nodup ∧ (∀ s ∈ l, Reach a.letters.toNat a.leafS a.brS s) ∧ 64 < l.length
def MinRes (w' : World) (base : Nat) (a : TA) (v : Value) : Prop :=
 (v = .tuple #[.pointer none, .int .i64 4] ∧ a.Large) ∨
 ∃ gM ac lf t, v = .tuple #[.pointer (some ⟨gM, 0, none⟩), .int .i64 0] ∧ base ≤ gM ∧ Mach w' base gM a.letters.toNat ac lf t ∧ MOK a.letters.toNat ac lf t ∧ ac.length ≤ 64 ∧ ¬ a.Large ∧
  Canon a.letters.toNat ac.length (mleaf lf) (mbr t) (macc ac) a.lang
theorem MOK.pos {L : Nat} {ac : List Bool} {lf : List Nat} {t : List (List (List Nat))} (h : MOK L ac lf t) (h0 : 0 < L) : 0 < ac.length := by
 have := h.isM.leaf_lt 0 h0
 omega
theorem treeMin_any (v : Value) (a : TA) (w : World) (h : IsTA w w.heap.size v a) (hv : a.valid = true) (hbig : a.branches.length ≤ 900000) :
  Calls Tryd.prog 18 #[v] w (Ret fun v w' => Below w.heap.size w w' ∧ MinRes w' w.heap.size a v) := by
 have hv' := hv
 simp only [TA.valid, TA.head, Bool.and_eq_true, decide_eq_true_eq] at hv'
 obtain ⟨⟨⟨⟨⟨⟨hL1, hL8⟩, -⟩, -⟩, -⟩, -⟩, -⟩ := hv'
 obtain ⟨A1, c1, A2, c2, A3, c3, rfl, h1, h2, h3⟩ := h
 obtain ⟨w1, hw1, hb1, hB1, hk1⟩ := box_blk w #[.int .i64 a.letters, .int .i64 a.states, .slice A1 a.accept.length c1, .slice A2 a.leaves.length c2, .slice A3 a.branches.length c3] 40
 have hcb := hB1.cell
 have hsz := hb1.size
 have hT : IsTA w1 w1.heap.size (.agg #[.int .i64 a.letters, .int .i64 a.states, .slice A1 a.accept.length c1, .slice A2 a.leaves.length c2, .slice A3 a.branches.length c3]) a :=
  IsTA.keep ⟨A1, c1, A2, c2, A3, c3, rfl, h1, h2, h3⟩ (fun _ hp => hb1.cell hp) hsz
 have hTT := hide hT
 have hvv := hide hv
 clear hT hv h1 h2 h3
 go_enter Tryd.func18, Tryd.ntmps18
 go_wp2_with fail
 refine Calls.ret (determine_any _ a w1 hTT.out hvv.out hbig) ?_
 rintro v w2 ⟨hb2, l, hn, hR, hres⟩
 have hRR := hide hR
 have hNN := hide hn
 clear hR hn
 rcases hres with ⟨rfl, hl⟩ | ⟨gM, lf, t, rfl, hgM, hM, hlf, hLf, hT, htl, hl64⟩
 ·go_wp2_with fail
  go_ret2
  exact ⟨hb1.trans (hb2.mono hsz), .inl ⟨rfl, l, hNN.out, hRR.out, hl⟩⟩
 ·obtain ⟨hok, hrun, hacc⟩ := built_ok (acc := a.accS) hNN.out hRR.out hlf hLf hT htl
  have hOO := hide hok
  have hAA := hide hacc
  have hrr := hide hrun
  obtain ⟨vacc, vleaf, vbr, hMA⟩ := hM
  have hMM := hide hMA
  have hlen : (l.map a.accS).length ≤ 64 := by simpa using hl64
  have hpos : 0 < a.letters.toNat := by omega
  have hpos2 := hOO.out.pos hpos
  have hL88 : a.letters.toNat ≤ 8 := by omega
  have hsz2 := hb2.size
  clear hok hacc hlf hLf hT htl hMA hrun
  go_wp2_with fail
  refine Calls.ret (minimal_any hMM.out hOO.out hpos hL88 (by omega) hpos2) ?_
  rintro v w3 ⟨hb3, gM', ac', lf', t', rfl, hgM', hM', hok', hle', hcan⟩
  have hM2 := hide hM'
  have hok2 := hide hok'
  have hcan2 := hide hcan
  clear hM' hok' hcan
  go_wp2_with fail
  go_ret2
  refine ⟨(hb1.trans (hb2.mono hsz)).trans (hb3.mono (by omega)), .inr ⟨gM', ac', lf', t', rfl, by omega, hM2.out.weak (by omega), hok2.out, by omega, ?_, ?_⟩⟩
  ·rintro ⟨l', h1, h2, h3⟩
   have : l'.length ≤ l.length := sub_len l' l h1 fun s hs => by
    obtain ⟨tr, htr, rfl⟩ := reach_run.1 (h2 s hs)
    exact List.mem_of_getElem? (hrr.out tr htr)
   omega
  ·have hc := hcan2.out
   exact ⟨hc.isM, fun tr htr => (hc.lang tr htr).trans (hAA.out tr htr), fun tr u htr hu he => hc.sep tr u htr hu fun r => EqT.congr (fun tr htr => (hAA.out tr htr).symm) r tr u htr hu (he r), hc.ord⟩
def lvCells (l : Leaf) : List Value := [.int .i64 l.letter, .int .i64 l.to]
structure PlS (wb w : World) (g3 L n : Nat) (vacc vlv vbr : Value) (al : List Nat) (lv : List Leaf) (br : List Branch) : Prop where
 kept : Kept wb w (fun k => k = g3)
 blk : Blk w g3 40 #[.int .i64 L, .int .i64 n, vacc, vlv, vbr]
 acc : w.ownsRow wb.heap.size 3 1 vacc al.length (al.map encN)
 lvs : w.ownsRow wb.heap.size 71 2 vlv lv.length (lv.flatMap lvCells)
 brs : w.ownsRow wb.heap.size 73 4 vbr br.length (br.flatMap brCells)
theorem PlS.keep0 {wb w w' : World} {g3 L n : Nat} {vacc vlv vbr : Value} {al : List Nat} {lv : List Leaf} {br : List Branch} (h : PlS wb w g3 L n vacc vlv vbr al lv br) (hk : Kept w w' (fun _ => False)) : PlS wb w' g3 L n vacc vlv vbr al lv br :=
 ⟨h.kept.trans hk (fun _ _ h => h.elim), h.blk.kept hk id, own_ty hk h.acc (fun _ _ h => h.elim), own_ty hk h.lvs (fun _ _ h => h.elim), own_ty hk h.brs (fun _ _ h => h.elim)⟩
theorem PlS.rows {wb w w3 : World} {g3 L n e size m : Nat} {vacc vlv vbr v : Value} {xs : List Value} {al : List Nat} {lv : List Leaf} {br : List Branch} (h : PlS wb w g3 L n vacc vlv vbr al lv br) (ho : w.ownsRow wb.heap.size e size v m xs) (he : e ≠ 40) (hk : Kept w w3 (fun k => v.ownBlock = some k)) (i : Nat) (u : Value) :
  Kept wb (w3.setCell ⟨g3, i, none⟩ u) (fun k => k = g3) ∧ Blk (w3.setCell ⟨g3, i, none⟩ u) g3 40 (#[.int .i64 L, .int .i64 n, vacc, vlv, vbr].setIfInBounds i u) ∧
  ∀ e' size' m' v' xs', e' ≠ 40 → w3.ownsRow wb.heap.size e' size' v' m' xs' → (w3.setCell ⟨g3, i, none⟩ u).ownsRow wb.heap.size e' size' v' m' xs' := by
 have hb3 := h.blk.kept hk (fun e' => own_blk_ne ho h.blk he e')
 have hks := (Kept.refl w3 (fun k => k = g3)).setCell (p := ⟨g3, i, none⟩) (fun _ => rfl) u
 exact ⟨(h.kept.trans hk (fun b hb hx => by have := own_base ho hx; omega)).trans hks (fun _ _ h => h), hb3.set_ i u, fun e' size' m' v' xs' he' ho' => own_ty hks ho' fun g cs eg hb => by subst eg; exact hb3.ne_ hb (fun h => he' h.symm) rfl⟩
theorem PlS.addAcc {wb w w3 : World} {g3 L n e : Nat} {vacc vlv vbr v' : Value} {al : List Nat} {lv : List Leaf} {br : List Branch} (h : PlS wb w g3 L n vacc vlv vbr al lv br) (hk : Kept w w3 (fun k => vacc.ownBlock = some k)) (ho : w3.ownsRow wb.heap.size 3 1 v' (al.length + 1) (al.map encN ++ [encN e])) :
  PlS wb (w3.setCell ⟨g3, 2, none⟩ v') g3 L n v' vlv vbr (al ++ [e]) lv br := by
 obtain ⟨h1, h2, h3⟩ := h.rows h.acc (by decide) hk 2 v'
 refine ⟨h1, h2, ?_, h3 _ _ _ _ _ (by decide) (own_ty hk h.lvs (not_blk h.acc (by decide))), h3 _ _ _ _ _ (by decide) (own_ty hk h.brs (not_blk h.acc (by decide)))⟩
 have := h3 _ _ _ _ _ (by decide) ho
 simpa using this
theorem PlS.addLv {wb w w3 : World} {g3 L n : Nat} {e : Leaf} {vacc vlv vbr v' : Value} {al : List Nat} {lv : List Leaf} {br : List Branch} (h : PlS wb w g3 L n vacc vlv vbr al lv br) (hk : Kept w w3 (fun k => vlv.ownBlock = some k)) (ho : w3.ownsRow wb.heap.size 71 2 v' (lv.length + 1) (lv.flatMap lvCells ++ lvCells e)) :
  PlS wb (w3.setCell ⟨g3, 3, none⟩ v') g3 L n vacc v' vbr al (lv ++ [e]) br := by
 obtain ⟨h1, h2, h3⟩ := h.rows h.lvs (by decide) hk 3 v'
 refine ⟨h1, h2, h3 _ _ _ _ _ (by decide) (own_ty hk h.acc (not_blk h.lvs (by decide))), ?_, h3 _ _ _ _ _ (by decide) (own_ty hk h.brs (not_blk h.lvs (by decide)))⟩
 have := h3 _ _ _ _ _ (by decide) ho
 simpa using this
theorem PlS.addBr {wb w w3 : World} {g3 L n : Nat} {e : Branch} {vacc vlv vbr v' : Value} {al : List Nat} {lv : List Leaf} {br : List Branch} (h : PlS wb w g3 L n vacc vlv vbr al lv br) (hk : Kept w w3 (fun k => vbr.ownBlock = some k)) (ho : w3.ownsRow wb.heap.size 73 4 v' (br.length + 1) (br.flatMap brCells ++ brCells e)) :
  PlS wb (w3.setCell ⟨g3, 4, none⟩ v') g3 L n vacc vlv v' al lv (br ++ [e]) := by
 obtain ⟨h1, h2, h3⟩ := h.rows h.brs (by decide) hk 4 v'
 refine ⟨h1, h2, h3 _ _ _ _ _ (by decide) (own_ty hk h.acc (not_blk h.brs (by decide))), h3 _ _ _ _ _ (by decide) (own_ty hk h.lvs (not_blk h.brs (by decide))), ?_⟩
 have := h3 _ _ _ _ _ (by decide) ho
 simpa using this
theorem info36 : (Tryd.prog.info? 71).map (fun i => (i.zero, i.size, i.bytes)) = some (some (.agg #[.int .i64 0, .int .i64 0]), 2, 16) := by kernel_rfl
theorem row23 : RowTy Tryd.prog 37 71 2 := rowTy_of Tryd.underlying37 info36 rfl (by omega) (by omega)
def accIdx (ac : List Bool) : List Nat := (List.range ac.length).filter fun i => macc ac i
def plLv (lf : List Nat) : List Leaf := (List.range lf.length).map fun (x : Nat) => ⟨(x : Int), (mleaf lf x : Int)⟩
def plBr (L n : Nat) (t : List (List (List Nat))) : List Branch :=
 (List.range L).flatMap fun (x : Nat) => (List.range n).flatMap fun (i : Nat) => (List.range n).map fun (j : Nat) => ⟨(x : Int), (i : Int), (j : Int), (mbr t x i j : Int)⟩
def plainA (L : Nat) (ac : List Bool) (lf : List Nat) (t : List (List (List Nat))) : TA :=
 { letters := L, states := ac.length, accept := (accIdx ac).map fun (i : Nat) => (i : Int), leaves := plLv lf, branches := plBr L ac.length t }
end Go.Proofs.YtbjdgepfhhafjaaDoor
namespace Go.Proofs.YtbjdgepfhhafjaaDoor
open Go.RowKit
theorem pl_accept {wb w : World} {base gM g3 L : Nat} {vacc vleaf vbr v4 v5 : Value} {ac : List Bool} {lf : List Nat} {t : List (List (List Nat))} {lv : List Leaf} {br : List Branch} (hM : MachA wb base gM L vacc vleaf vbr ac lf t) (hn : ac.length ≤ 20000)
  (hP : PlS wb w g3 L ac.length (.slice none 0 0) v4 v5 [] lv br) (hg3 : Blk wb g3 40 #[.int .i64 L, .int .i64 ac.length, .slice none 0 0, .slice none 0 0, .slice none 0 0])
  {u0 u1 u2 u4 u5 u6 u7 u8 u9 u10 u11 u12 u13 u14 u15 u16 u17 u18 u19 u20 u24 u25 u26 u27 u28 u29 u30 u31 u32 u33 u34 u35 u36 u37 u38 u39 u40 u41 u42 u43 u44 u45 u46 u47 u48 u49 u50 u51 u52 u53 u54 u55 u56 u57 u58 u59 u60 u61 u62 u63 u64 u65 u66 u67 u68 u69 u70 u71 u72 u73 u74 u75 u76 u77 u78 u79 u80 u81 u82 u83 u84 u85 u86 u87 u88 u89 u90 u91 u92 u93 u94 u95 u96 u97 u98 u99 u100 u101 u102 u103 : Value}
  {Q : Exit → Act → World → Prop}
  (hQ : ∀ (x4 x5 x23 x24 x25 x26 x27 x28 x29 x30 x31 x32 x33 x34 x35 : Value) (w' : World) (v : Value), PlS wb w' g3 L ac.length v v4 v5 (accIdx ac) lv br → Q (.exit 0) ⟨List.toArray (u0 :: u1 :: u2 :: (.pointer (some ⟨g3, 0, none⟩)) :: x4 :: x5 :: u6 :: u7 :: u8 :: u9 :: u10 :: u11 :: u12 :: u13 :: u14 :: u15 :: u16 :: u17 :: u18 :: u19 :: u20 :: vacc :: (.int .i64 ac.length) :: x23 :: x24 :: x25 :: x26 :: x27 :: x28 :: x29 :: x30 :: x31 ::
   x32 :: x33 :: x34 :: x35 :: u36 :: u37 :: u38 :: u39 :: u40 :: u41 :: u42 :: u43 :: u44 :: u45 :: u46 :: u47 :: u48 :: u49 :: u50 :: u51 :: u52 :: u53 :: u54 :: u55 :: u56 :: u57 :: u58 :: u59 :: u60 :: u61 :: u62 :: u63 :: u64 :: u65 :: u66 :: u67 :: u68 ::
   u69 :: u70 :: u71 :: u72 :: u73 :: u74 :: u75 :: u76 :: u77 :: u78 :: u79 :: u80 :: u81 :: u82 :: u83 :: u84 :: u85 :: u86 :: u87 :: u88 :: u89 :: u90 :: u91 :: u92 :: u93 :: u94 :: u95 :: u96 :: u97 :: u98 :: u99 :: u100 :: u101 :: u102 :: u103 :: []), []⟩ w') :
  (Code.loop (loopBody Tryd.f19 0)).wp Tryd.prog Q ⟨List.toArray (u0 :: u1 :: u2 :: (.pointer (some ⟨g3, 0, none⟩)) :: u4 :: u5 :: u6 :: u7 :: u8 :: u9 :: u10 :: u11 :: u12 :: u13 :: u14 :: u15 :: u16 :: u17 :: u18 :: u19 :: u20 :: vacc :: (.int .i64 ac.length) :: (.int .i64 0) :: u24 :: u25 :: u26 :: u27 :: u28 :: u29 ::
   u30 :: u31 :: u32 :: u33 :: u34 :: u35 :: u36 :: u37 :: u38 :: u39 :: u40 :: u41 :: u42 :: u43 :: u44 :: u45 :: u46 :: u47 :: u48 :: u49 :: u50 :: u51 :: u52 :: u53 :: u54 :: u55 :: u56 :: u57 :: u58 :: u59 :: u60 :: u61 :: u62 :: u63 :: u64 :: u65 :: u66 ::
   u67 :: u68 :: u69 :: u70 :: u71 :: u72 :: u73 :: u74 :: u75 :: u76 :: u77 :: u78 :: u79 :: u80 :: u81 :: u82 :: u83 :: u84 :: u85 :: u86 :: u87 :: u88 :: u89 :: u90 :: u91 :: u92 :: u93 :: u94 :: u95 :: u96 :: u97 :: u98 :: u99 :: u100 :: u101 :: u102 :: u103 ::
   []), []⟩ w := by
 conv => arg 2; arg 1; whnf
 go_loopw [23] (fun ii wr => ∃ (k : Nat) (v : Value) (al : List Nat), ii = .int .i64 (k : Int) ∧ k ≤ ac.length ∧ al.length ≤ k ∧ PlS wb wr g3 L ac.length v v4 v5 al lv br ∧ Hid (al = (List.range k).filter fun i => macc ac i)) (fun ii _ => ac.length - (intOf ii).toNat)
 case atStart => exact ⟨0, _, [], rfl, Nat.zero_le _, by simp, hP, rfl⟩
 case round =>
  obtain ⟨k, v, al, rfl, hk, hal, hPP, hl⟩ := hrel
  have hM' := hM.keep hPP.kept (fun k t cs hx hb => by
   subst hx
   have := blk_ty hg3 hb
   subst this
   decide)
  obtain ⟨A, c, rfl⟩ := slice_of_own hPP.acc
  have hc3 := hPP.blk.cell
  have hf3 := hPP.blk.frozen
  have hl3 := hPP.blk.lt
  have hwb := hPP.kept.size
  by_cases hlt : k < ac.length
  ·obtain ⟨b, hb⟩ := get_lt hlt
   obtain ⟨ga, ca, rfl, hcb⟩ := own_get hM'.acc (map_get (f := Value.bool) hb)
   have hmb := hide (show macc ac k = b from getD_some hb)
   have hrs : Hid ((List.range (k + 1)).filter (fun i => macc ac i) = al ++ (if b = true then [k] else [])) := by
    show _ = _
    rw [List.range_succ, List.filter_append, ← hl.out]
    simp only [List.filter_cons, List.filter_nil, hmb.out]
   clear hb
   cases b
   ·go_wp2_with fail
    exact ⟨⟨k + 1, _, al, by simp, by omega, by omega, hPP, by show _ = _; rw [hrs.out]; simp⟩, by simp [intOf]; omega⟩
   ·go_wp2_with (at_builtin; refine wpList_app_new row22 rfl _ _ rfl wb.heap.size (.slice A al.length c) al.length _ rfl hPP.acc [.int .i64 (k : Int)] 1 rfl rfl (by simp [Value.oneCell']) (by omega) hwb ?_; intro g cap' w3 hown hk3 hmv3 hg3'; have hm3 := hPP.blk.kept hk3 (fun e => own_blk_ne hPP.acc hPP.blk (by decide) e); have hcm3 := hm3.cell; have hfm3 := hm3.frozen; have hgl3 := hm3.lt)
    refine ⟨⟨k + 1, _, al ++ [k], by simp, by omega, by simp; omega, hPP.addAcc hk3 hown, by show _ = _; rw [hrs.out]; simp⟩, by simp [intOf]; omega⟩
  ·have e : k = ac.length := by omega
   have he := hide e
   clear e
   go_wp2_with fail
   have h1 := hl.out
   rw [he.out] at h1
   have h2 : accIdx ac = al := h1.symm
   rw [← h2] at hPP
   exact hQ _ _ _ _ _ _ _ _ _ _ _ _ _ _ _ wr _ hPP
theorem PlS.mach {wb w : World} {base gM g3 L L' n : Nat} {vacc vleaf vbr v1 v2 v3 u1 u2 u3 : Value} {ac : List Bool} {lf al : List Nat} {t : List (List (List Nat))} {lv : List Leaf} {br : List Branch} (hP : PlS wb w g3 L n v1 v2 v3 al lv br) (hM : MachA wb base gM L' vacc vleaf vbr ac lf t)
  (hg3 : Blk wb g3 40 #[.int .i64 L, .int .i64 n, u1, u2, u3]) : MachA w base gM L' vacc vleaf vbr ac lf t :=
 hM.keep hP.kept (fun k t cs hx hb => by
   subst hx
   have := blk_ty hg3 hb
   subst this
   decide)
theorem pl_leaves {wb w : World} {base gM g3 L : Nat} {vacc vleaf vbr v3 v5 : Value} {ac : List Bool} {lf al : List Nat} {t : List (List (List Nat))} {br : List Branch} (hM : MachA wb base gM L vacc vleaf vbr ac lf t) (hL : lf.length ≤ 8)
  (hP : PlS wb w g3 L ac.length v3 (.slice none 0 0) v5 al [] br) (hg3 : Blk wb g3 40 #[.int .i64 L, .int .i64 ac.length, .slice none 0 0, .slice none 0 0, .slice none 0 0])
  {u0 u1 u2 u4 u5 u6 u7 u8 u9 u10 u11 u12 u13 u14 u15 u16 u17 u18 u19 u20 u21 u22 u23 u24 u25 u26 u27 u28 u29 u30 u31 u32 u33 u34 u35 u36 u37 u38 u42 u43 u44 u45 u46 u47 u48 u49 u50 u51 u52 u53 u54 u55 u56 u57 u58 u59 u60 u61 u62 u63 u64 u65 u66 u67 u68 u69 u70 u71 u72 u73 u74 u75 u76 u77 u78 u79 u80 u81 u82 u83 u84 u85 u86 u87 u88 u89 u90 u91 u92 u93 u94 u95 u96 u97 u98 u99 u100 u101 u102 u103 : Value}
  {Q : Exit → Act → World → Prop}
  (hQ : ∀ (x6 x7 x41 x42 x43 x44 x45 x46 x47 x48 x49 x50 x51 x52 x53 x54 : Value) (w' : World) (v : Value), PlS wb w' g3 L ac.length v3 v v5 al (plLv lf) br → Q (.exit 2) ⟨List.toArray (u0 :: u1 :: u2 :: (.pointer (some ⟨g3, 0, none⟩)) :: u4 :: u5 :: x6 :: x7 :: u8 :: u9 :: u10 :: u11 :: u12 :: u13 :: u14 :: u15 :: u16 :: u17 :: u18 :: u19 :: u20 :: u21 :: u22 :: u23 :: u24 :: u25 :: u26 :: u27 :: u28 :: u29 :: u30 :: u31 :: u32 :: u33 :: u34 ::
   u35 :: u36 :: u37 :: u38 :: vleaf :: (.int .i64 lf.length) :: x41 :: x42 :: x43 :: x44 :: x45 :: x46 :: x47 :: x48 :: x49 :: x50 :: x51 :: x52 :: x53 :: x54 :: u55 :: u56 :: u57 :: u58 :: u59 :: u60 :: u61 :: u62 :: u63 :: u64 :: u65 :: u66 :: u67 :: u68 ::
   u69 :: u70 :: u71 :: u72 :: u73 :: u74 :: u75 :: u76 :: u77 :: u78 :: u79 :: u80 :: u81 :: u82 :: u83 :: u84 :: u85 :: u86 :: u87 :: u88 :: u89 :: u90 :: u91 :: u92 :: u93 :: u94 :: u95 :: u96 :: u97 :: u98 :: u99 :: u100 :: u101 :: u102 :: u103 :: []), []⟩ w') :
  (Code.loop (loopBody Tryd.f19 1)).wp Tryd.prog Q ⟨List.toArray (u0 :: u1 :: u2 :: (.pointer (some ⟨g3, 0, none⟩)) :: u4 :: u5 :: u6 :: u7 :: u8 :: u9 :: u10 :: u11 :: u12 :: u13 :: u14 :: u15 :: u16 :: u17 :: u18 :: u19 :: u20 :: u21 :: u22 :: u23 :: u24 :: u25 :: u26 :: u27 :: u28 :: u29 :: u30 :: u31 :: u32 :: u33 :: u34 ::
   u35 :: u36 :: u37 :: u38 :: vleaf :: (.int .i64 lf.length) :: (.int .i64 0) :: u42 :: u43 :: u44 :: u45 :: u46 :: u47 :: u48 :: u49 :: u50 :: u51 :: u52 :: u53 :: u54 :: u55 :: u56 :: u57 :: u58 :: u59 :: u60 :: u61 :: u62 :: u63 :: u64 :: u65 :: u66 :: u67 ::
   u68 :: u69 :: u70 :: u71 :: u72 :: u73 :: u74 :: u75 :: u76 :: u77 :: u78 :: u79 :: u80 :: u81 :: u82 :: u83 :: u84 :: u85 :: u86 :: u87 :: u88 :: u89 :: u90 :: u91 :: u92 :: u93 :: u94 :: u95 :: u96 :: u97 :: u98 :: u99 :: u100 :: u101 :: u102 :: u103 :: []), []⟩ w := by
 conv => arg 2; arg 1; whnf
 go_loopw [41] (fun ii wr => ∃ (k : Nat) (v : Value) (lv : List Leaf), ii = .int .i64 (k : Int) ∧ k ≤ lf.length ∧ lv.length ≤ k ∧ PlS wb wr g3 L ac.length v3 v v5 al lv br ∧ Hid (lv = (List.range k).map fun (x : Nat) => ⟨(x : Int), (mleaf lf x : Int)⟩)) (fun ii _ => lf.length - (intOf ii).toNat)
 case atStart => exact ⟨0, _, [], rfl, Nat.zero_le _, by simp, hP, rfl⟩
 case round =>
  obtain ⟨k, v, lv, rfl, hk, hlv, hPP, hl⟩ := hrel
  have hM' := hPP.mach hM hg3
  obtain ⟨A, c, rfl⟩ := slice_of_own hPP.lvs
  have hc3 := hPP.blk.cell
  have hf3 := hPP.blk.frozen
  have hl3 := hPP.blk.lt
  have hwb := hPP.kept.size
  by_cases hlt : k < lf.length
  ·obtain ⟨e, he⟩ := get_lt hlt
   obtain ⟨ga, ca, rfl, hce⟩ := own_get hM'.lfs (map_get (f := encN) he)
   have hme := hide (show mleaf lf k = e from getD_some he)
   simp only [encN] at hce
   clear he
   go_wp2_with (at_builtin; refine wpList_app_new row23 rfl _ _ rfl wb.heap.size (.slice A lv.length c) lv.length _ rfl hPP.lvs [.int .i64 (k : Int), .int .i64 (e : Int)] 1 rfl rfl (by simp [Value.oneCell']) (by omega) hwb ?_; intro g cap' w3 hown hk3 hmv3 hg3'; have hm3 := hPP.blk.kept hk3 (fun e => own_blk_ne hPP.lvs hPP.blk (by decide) e); have hcm3 := hm3.cell; have hfm3 := hm3.frozen; have hgl3 := hm3.lt)
   refine ⟨⟨k + 1, _, lv ++ [⟨(k : Int), (e : Int)⟩], by simp, by omega, by simp; omega, hPP.addLv (e := ⟨(k : Int), (e : Int)⟩) hk3 hown, ?_⟩, by simp [intOf]; omega⟩
   show _ = _
   rw [List.range_succ, List.map_append, ← hl.out, List.map_singleton, hme.out]
  ·have e : k = lf.length := by omega
   have he := hide e
   clear e
   go_wp2_with fail
   have h1 := hl.out
   rw [he.out] at h1
   have h2 : plLv lf = lv := h1.symm
   rw [← h2] at hPP
   exact hQ _ _ _ _ _ _ _ _ _ _ _ _ _ _ _ _ wr _ hPP
theorem pl_second {wb w : World} {base gM g3 L x i : Nat} {vacc vleaf vbr v3 v4 v5 : Value} {ac : List Bool} {lf al : List Nat} {t : List (List (List Nat))} {lv : List Leaf} {br : List Branch} (hM : MachA wb base gM L vacc vleaf vbr ac lf t) (hok : MOK L ac lf t) (hn : ac.length ≤ 200) (hx : x < L) (hi : i < ac.length)
  (hP : PlS wb w g3 L ac.length v3 v4 v5 al lv br) (hg3 : Blk wb g3 40 #[.int .i64 L, .int .i64 ac.length, .slice none 0 0, .slice none 0 0, .slice none 0 0]) (hbr : br.length ≤ 600000)
  {u1 u2 u4 u5 u6 u7 u10 u11 u12 u13 u14 u15 u16 u17 u18 u19 u20 u21 u22 u23 u24 u25 u26 u27 u28 u29 u30 u31 u32 u33 u34 u35 u36 u37 u38 u39 u40 u41 u42 u43 u44 u45 u46 u47 u48 u49 u50 u51 u52 u53 u54 u55 u56 u57 u58 u59 u60 u61 u62 u63 u64 u65 u66 u67 u68 u69 u70 u71 u72 u73 u76 u77 u78 u79 u80 u81 u82 u83 u84 u85 u86 u87 u88 u89 u90 u91 u92 u93 u94 u95 u96 u97 u98 u99 u100 u101 u102 u103 : Value}
  {Q : Exit → Act → World → Prop} (hNQ : Reg.NoQ Q)
  (hQ : ∀ (x10 x75 x76 x77 x78 x79 x80 x81 x82 x83 x84 x85 x86 x87 x88 x89 x90 x91 x92 x93 x94 x95 x96 x97 x98 x99 x100 : Value) (w' : World) (v : Value), PlS wb w' g3 L ac.length v3 v4 v al lv (br ++ (List.range ac.length).map fun (j : Nat) => ⟨(x : Int), (i : Int), (j : Int), (mbr t x i j : Int)⟩) → Q (.exit 8) ⟨List.toArray ((.pointer (some ⟨gM, 0, none⟩)) :: u1 :: u2 :: (.pointer (some ⟨g3, 0, none⟩)) :: u4 :: u5 :: u6 :: u7 :: (.int .i64 x) :: (.int .i64 i) :: x10 :: u11 :: u12 :: u13 :: u14 :: u15 :: u16 :: u17 :: u18 :: u19 :: u20 :: u21 :: u22 :: u23 :: u24 :: u25 :: u26 ::
   u27 :: u28 :: u29 :: u30 :: u31 :: u32 :: u33 :: u34 :: u35 :: u36 :: u37 :: u38 :: u39 :: u40 :: u41 :: u42 :: u43 :: u44 :: u45 :: u46 :: u47 :: u48 :: u49 :: u50 :: u51 :: u52 :: u53 :: u54 :: u55 :: u56 :: u57 :: u58 :: u59 :: u60 :: u61 :: u62 :: u63 ::
   u64 :: u65 :: u66 :: u67 :: u68 :: u69 :: u70 :: u71 :: u72 :: u73 :: (.int .i64 ac.length) :: x75 :: x76 :: x77 :: x78 :: x79 :: x80 :: x81 :: x82 :: x83 :: x84 :: x85 :: x86 :: x87 :: x88 :: x89 :: x90 :: x91 :: x92 :: x93 :: x94 :: x95 :: x96 :: x97 :: x98 ::
   x99 :: x100 :: u101 :: u102 :: u103 :: []), []⟩ w') :
  (Code.loop (loopBody Tryd.f19 4)).wp Tryd.prog Q ⟨List.toArray ((.pointer (some ⟨gM, 0, none⟩)) :: u1 :: u2 :: (.pointer (some ⟨g3, 0, none⟩)) :: u4 :: u5 :: u6 :: u7 :: (.int .i64 x) :: (.int .i64 i) :: u10 :: u11 :: u12 :: u13 :: u14 :: u15 :: u16 :: u17 :: u18 :: u19 :: u20 :: u21 :: u22 :: u23 :: u24 :: u25 :: u26 ::
   u27 :: u28 :: u29 :: u30 :: u31 :: u32 :: u33 :: u34 :: u35 :: u36 :: u37 :: u38 :: u39 :: u40 :: u41 :: u42 :: u43 :: u44 :: u45 :: u46 :: u47 :: u48 :: u49 :: u50 :: u51 :: u52 :: u53 :: u54 :: u55 :: u56 :: u57 :: u58 :: u59 :: u60 :: u61 :: u62 :: u63 ::
   u64 :: u65 :: u66 :: u67 :: u68 :: u69 :: u70 :: u71 :: u72 :: u73 :: (.int .i64 ac.length) :: (.int .i64 0) :: u76 :: u77 :: u78 :: u79 :: u80 :: u81 :: u82 :: u83 :: u84 :: u85 :: u86 :: u87 :: u88 :: u89 :: u90 :: u91 :: u92 :: u93 :: u94 :: u95 :: u96 ::
   u97 :: u98 :: u99 :: u100 :: u101 :: u102 :: u103 :: []), []⟩ w := by
 conv => arg 2; arg 1; whnf
 have hok2 := hide hok
 clear hok
 go_loopw [75] (fun ii wr => ∃ (j : Nat) (v : Value) (br' : List Branch), ii = .int .i64 (j : Int) ∧ j ≤ ac.length ∧ br'.length ≤ br.length + j ∧ PlS wb wr g3 L ac.length v3 v4 v al lv br' ∧ Hid (br' = br ++ (List.range j).map fun (j : Nat) => ⟨(x : Int), (i : Int), (j : Int), (mbr t x i j : Int)⟩)) (fun ii _ => ac.length - (intOf ii).toNat)
 case atStart => exact ⟨0, _, br, rfl, Nat.zero_le _, by simp, hP, by show _ = _; simp⟩
 case round =>
  obtain ⟨j, v, br', rfl, hj, hbl, hPP, hl⟩ := hrel
  have hM' := hPP.mach hM hg3
  obtain ⟨A, c, rfl⟩ := slice_of_own hPP.brs
  by_cases hlt : j < ac.length
  ·obtain ⟨gv, cv, gi, ci, gj, cj, rfl, h1, h2, h3⟩ := hM'.at hok2.out hi hlt hx
   have hcm := hM'.blk.cell
   have hc3 := hPP.blk.cell
   have hwb := hPP.kept.size
   have hfin := hide (show (List.range (j + 1)).map (fun (j : Nat) => (⟨(x : Int), (i : Int), (j : Int), (mbr t x i j : Int)⟩ : Branch)) = (List.range j).map (fun (j : Nat) => (⟨(x : Int), (i : Int), (j : Int), (mbr t x i j : Int)⟩ : Branch)) ++ [⟨(x : Int), (i : Int), (j : Int), (mbr t x i j : Int)⟩] by rw [List.range_succ, List.map_append]; rfl)
   generalize mbr t x i j = e at *
   go_wp2_with fail
   refine Reg.region_cut [0, 1, 0, 0, 0, 0, 32, 96, 224, 0, 992, 2016, 0, 8160, 16352, 0, 65504, 131040, 262140, 524284, 1048575, 2097151, 4194303] [0, 1, 2, 3, 4, 5, 6, 7, 8, 9, 10, 11, 12, 13, 14, 15, 16, 17, 18, 19, 20, 21, 22] (by kernel_rfl) (by repeat (first | exact hNQ | refine Reg.NoQ.then ?_ | refine Reg.NoQ.inBlock ?_)) ?_
   refine Reg.rest_walk' [0, 1, 2, 3, 4, 5, 6, 7, 8, 9, 10, 11, 12, 13, 14, 15, 16, 17] [18, 19, 20, 21, 22] rfl (by kernel_rfl) ?_
   intro Qf hQf
   go_wp2_with fail
   rw [List.filterMap_nil]
   go_wp2_with fail
   refine Reg.rest_act' 18 [19, 20, 21, 22] [1] rfl (by kernel_rfl) ?_
   intro Qf hQf
   simp only [gT, gS, gZ]
   go_wp2_with fail
   refine ⟨Reg.same_below (Below.refl _ _) [1] rfl, ?_⟩
   refine Reg.rest_walk' [19] [20, 21, 22] rfl (by kernel_rfl) ?_
   intro Qf hQf
   go_wp2_with fail
   rw [List.filterMap_nil]
   go_wp2_with fail
   refine Reg.rest_act' 20 [21, 22] [] rfl (by kernel_rfl) ?_
   intro Qf hQf
   simp only [gT, gS, gZ]
   have hPd := hPP.keep0 ((Kept.refl wr (fun _ => False)).drew)
   refine wpList_app_new (w := wr.drew) row24 rfl _ _ rfl wb.heap.size (.slice A br'.length c) br'.length _ rfl hPd.brs [.int .i64 (x : Int), .int .i64 (i : Int), .int .i64 (j : Int), .int .i64 (e : Int)] 1 rfl rfl (by simp [Value.oneCell']) (by omega) hwb ?_
   intro g cap' w3 hown hk3 hmv3 hg3'
   have hm3 := hPd.blk.kept hk3 (fun e => own_blk_ne hPd.brs hPd.blk (by decide) e)
   have hcm3 := hm3.cell
   have hfm3 := hm3.frozen
   have hgl3 := hm3.lt
   have hPf := hPd.addBr (e := ⟨(x : Int), (i : Int), (j : Int), (e : Int)⟩) hk3 hown
   refine hQf _ _ ⟨Reg.nm, ?_⟩
   clear hQf
   refine Reg.rest_walk' [21, 22] [] rfl (by kernel_rfl) ?_
   intro Qf hQf
   go_wp2_with fail
   rw [List.filterMap_nil]
   go_wp2_with fail
   refine Reg.rest_end ?_
   go_wp2_with fail
   refine ⟨⟨j + 1, _, br' ++ [⟨(x : Int), (i : Int), (j : Int), (e : Int)⟩], by simp, by omega, by simp; omega, hPf, ?_⟩, by simp [intOf]; omega⟩
   show _ = _
   rw [hfin.out, ← List.append_assoc, ← hl.out]
  ·have e : j = ac.length := by omega
   have he := hide e
   clear e
   go_wp2_with fail
   have h1 := hl.out
   rw [he.out] at h1
   subst h1
   exact hQ _ _ _ _ _ _ _ _ _ _ _ _ _ _ _ _ _ _ _ _ _ _ _ _ _ _ _ wr _ hPP
theorem flat_len {A B : Type} (f : A → List B) (k : Nat) (hf : ∀ a, (f a).length ≤ k) (l : List A) : (l.flatMap f).length ≤ l.length * k := by
 induction l with
 | nil => simp
 | cons a l ih =>
  rw [List.flatMap_cons, List.length_append, List.length_cons, Nat.succ_mul]
  have := hf a
  omega
def plJ (n : Nat) (t : List (List (List Nat))) (x i : Nat) : List Branch := (List.range n).map fun (j : Nat) => ⟨(x : Int), (i : Int), (j : Int), (mbr t x i j : Int)⟩
def plI (n : Nat) (t : List (List (List Nat))) (x : Nat) : List Branch := (List.range n).flatMap fun (i : Nat) => plJ n t x i
theorem plI_len (n k : Nat) (t : List (List (List Nat))) (x : Nat) : ((List.range k).flatMap fun (i : Nat) => plJ n t x i).length ≤ k * n := by
 have := flat_len (fun (i : Nat) => plJ n t x i) n (fun i => by simp [plJ]) (List.range k)
 simpa using this
theorem pl_first {wb w : World} {base gM g3 L x : Nat} {vacc vleaf vbr v3 v4 v5 : Value} {ac : List Bool} {lf al : List Nat} {t : List (List (List Nat))} {lv : List Leaf} {br : List Branch} (hM : MachA wb base gM L vacc vleaf vbr ac lf t) (hok : MOK L ac lf t) (hn : ac.length ≤ 200) (hx : x < L)
  (hP : PlS wb w g3 L ac.length v3 v4 v5 al lv br) (hg3 : Blk wb g3 40 #[.int .i64 L, .int .i64 ac.length, .slice none 0 0, .slice none 0 0, .slice none 0 0]) (hbr : br.length ≤ 500000)
  {u1 u2 u4 u5 u6 u7 u9 u10 u11 u12 u13 u14 u15 u16 u17 u18 u19 u20 u21 u22 u23 u24 u25 u26 u27 u28 u29 u30 u31 u32 u33 u34 u35 u36 u37 u38 u39 u40 u41 u42 u43 u44 u45 u46 u47 u48 u49 u50 u51 u52 u53 u54 u55 u56 u57 u58 u59 u60 u61 u62 u63 u64 u65 u68 u69 u70 u71 u72 u73 u74 u75 u76 u77 u78 u79 u80 u81 u82 u83 u84 u85 u86 u87 u88 u89 u90 u91 u92 u93 u94 u95 u96 u97 u98 u99 u100 u101 u102 u103 : Value}
  {Q : Exit → Act → World → Prop} (hNQ : Reg.NoQ Q)
  (hQ : ∀ (x9 x10 x67 x68 x69 x70 x71 x72 x73 x74 x75 x76 x77 x78 x79 x80 x81 x82 x83 x84 x85 x86 x87 x88 x89 x90 x91 x92 x93 x94 x95 x96 x97 x98 x99 x100 x101 : Value) (w' : World) (v : Value), PlS wb w' g3 L ac.length v3 v4 v al lv (br ++ plI ac.length t x) → Q (.exit 6) ⟨List.toArray ((.pointer (some ⟨gM, 0, none⟩)) :: u1 :: u2 :: (.pointer (some ⟨g3, 0, none⟩)) :: u4 :: u5 :: u6 :: u7 :: (.int .i64 x) :: x9 :: x10 :: u11 :: u12 :: u13 :: u14 :: u15 :: u16 :: u17 :: u18 :: u19 :: u20 :: u21 :: u22 :: u23 :: u24 :: u25 :: u26 :: u27 :: u28 ::
   u29 :: u30 :: u31 :: u32 :: u33 :: u34 :: u35 :: u36 :: u37 :: u38 :: u39 :: u40 :: u41 :: u42 :: u43 :: u44 :: u45 :: u46 :: u47 :: u48 :: u49 :: u50 :: u51 :: u52 :: u53 :: u54 :: u55 :: u56 :: u57 :: u58 :: u59 :: u60 :: u61 :: u62 :: u63 :: u64 :: u65 ::
   (.int .i64 ac.length) :: x67 :: x68 :: x69 :: x70 :: x71 :: x72 :: x73 :: x74 :: x75 :: x76 :: x77 :: x78 :: x79 :: x80 :: x81 :: x82 :: x83 :: x84 :: x85 :: x86 :: x87 :: x88 :: x89 :: x90 :: x91 :: x92 :: x93 :: x94 :: x95 :: x96 :: x97 :: x98 :: x99 :: x100 ::
   x101 :: u102 :: u103 :: []), []⟩ w') :
  (Code.loop (loopBody Tryd.f19 3)).wp Tryd.prog Q ⟨List.toArray ((.pointer (some ⟨gM, 0, none⟩)) :: u1 :: u2 :: (.pointer (some ⟨g3, 0, none⟩)) :: u4 :: u5 :: u6 :: u7 :: (.int .i64 x) :: u9 :: u10 :: u11 :: u12 :: u13 :: u14 :: u15 :: u16 :: u17 :: u18 :: u19 :: u20 :: u21 :: u22 :: u23 :: u24 :: u25 :: u26 :: u27 :: u28 ::
   u29 :: u30 :: u31 :: u32 :: u33 :: u34 :: u35 :: u36 :: u37 :: u38 :: u39 :: u40 :: u41 :: u42 :: u43 :: u44 :: u45 :: u46 :: u47 :: u48 :: u49 :: u50 :: u51 :: u52 :: u53 :: u54 :: u55 :: u56 :: u57 :: u58 :: u59 :: u60 :: u61 :: u62 :: u63 :: u64 :: u65 ::
   (.int .i64 ac.length) :: (.int .i64 0) :: u68 :: u69 :: u70 :: u71 :: u72 :: u73 :: u74 :: u75 :: u76 :: u77 :: u78 :: u79 :: u80 :: u81 :: u82 :: u83 :: u84 :: u85 :: u86 :: u87 :: u88 :: u89 :: u90 :: u91 :: u92 :: u93 :: u94 :: u95 :: u96 :: u97 :: u98 ::
   u99 :: u100 :: u101 :: u102 :: u103 :: []), []⟩ w := by
 conv => arg 2; arg 1; whnf
 go_loopw [67] (fun ii wr => ∃ (i : Nat) (v : Value) (br' : List Branch), ii = .int .i64 (i : Int) ∧ i ≤ ac.length ∧ PlS wb wr g3 L ac.length v3 v4 v al lv br' ∧ Hid (br' = br ++ (List.range i).flatMap fun (i : Nat) => plJ ac.length t x i)) (fun ii _ => ac.length - (intOf ii).toNat)
 case atStart => exact ⟨0, _, br, rfl, Nat.zero_le _, hP, by show _ = _; simp⟩
 case round =>
  obtain ⟨i, v, br', rfl, hi, hPP, hl⟩ := hrel
  have hM' := hPP.mach hM hg3
  obtain ⟨A, c, rfl⟩ := slice_of_own hM'.acc
  have hcm := hM'.blk.cell
  have hlen : br'.length ≤ 600000 := by
   rw [hl.out, List.length_append]
   have h1 := plI_len ac.length i t x
   have h2 : i * ac.length ≤ 200 * 200 := Nat.mul_le_mul (by omega) hn
   omega
  by_cases hlt : i < ac.length
  ·go_wp2_with fail
   refine pl_second hM hok hn hx hlt hPP hg3 hlen ?_ ?_
   ·repeat (first | exact hNQ | refine Reg.NoQ.then ?_ | refine Reg.NoQ.inBlock ?_)
   iterate 27 (intro _)
   intro w2 v2 hP2
   have hP3 := hide hP2
   clear hP2
   go_wp2_with fail
   refine ⟨⟨i + 1, _, _, by simp, by omega, hP3.out, ?_⟩, by simp [intOf]; omega⟩
   show _ = _
   rw [rangeSnoc, ← List.append_assoc, ← hl.out]
   rfl
  ·have e : i = ac.length := by omega
   have he := hide e
   clear e
   go_wp2_with fail
   have h1 := hl.out
   rw [he.out] at h1
   subst h1
   exact hQ _ _ _ _ _ _ _ _ _ _ _ _ _ _ _ _ _ _ _ _ _ _ _ _ _ _ _ _ _ _ _ _ _ _ _ _ _ wr _ hPP
theorem pl_letters {wb w : World} {base gM g3 L : Nat} {vacc vleaf vbr v3 v4 : Value} {ac : List Bool} {lf al : List Nat} {t : List (List (List Nat))} {lv : List Leaf} (hM : MachA wb base gM L vacc vleaf vbr ac lf t) (hok : MOK L ac lf t) (hn : ac.length ≤ 200) (hL : L ≤ 8)
  (hP : PlS wb w g3 L ac.length v3 v4 (.slice none 0 0) al lv []) (hg3 : Blk wb g3 40 #[.int .i64 L, .int .i64 ac.length, .slice none 0 0, .slice none 0 0, .slice none 0 0])
  {u1 u2 u4 u5 u6 u7 u8 u9 u10 u11 u12 u13 u14 u15 u16 u17 u18 u19 u20 u21 u22 u23 u24 u25 u26 u27 u28 u29 u30 u31 u32 u33 u34 u35 u36 u37 u38 u39 u40 u41 u42 u43 u44 u45 u46 u47 u48 u49 u50 u51 u52 u53 u54 u55 u56 u57 u60 u61 u62 u63 u64 u65 u66 u67 u68 u69 u70 u71 u72 u73 u74 u75 u76 u77 u78 u79 u80 u81 u82 u83 u84 u85 u86 u87 u88 u89 u90 u91 u92 u93 u94 u95 u96 u97 u98 u99 u100 u101 u102 u103 : Value}
  {Q : Exit → Act → World → Prop} (hNQ : Reg.NoQ Q)
  (hQ : ∀ (x8 x9 x10 x59 x60 x61 x62 x63 x64 x65 x66 x67 x68 x69 x70 x71 x72 x73 x74 x75 x76 x77 x78 x79 x80 x81 x82 x83 x84 x85 x86 x87 x88 x89 x90 x91 x92 x93 x94 x95 x96 x97 x98 x99 x100 x101 x102 : Value) (w' : World) (v : Value), PlS wb w' g3 L ac.length v3 v4 v al lv (plBr L ac.length t) → Q (.exit 4) ⟨List.toArray ((.pointer (some ⟨gM, 0, none⟩)) :: u1 :: u2 :: (.pointer (some ⟨g3, 0, none⟩)) :: u4 :: u5 :: u6 :: u7 :: x8 :: x9 :: x10 :: u11 :: u12 :: u13 :: u14 :: u15 :: u16 :: u17 :: u18 :: u19 :: u20 :: u21 :: u22 :: u23 :: u24 :: u25 :: u26 :: u27 :: u28 :: u29 ::
   u30 :: u31 :: u32 :: u33 :: u34 :: u35 :: u36 :: u37 :: u38 :: u39 :: u40 :: u41 :: u42 :: u43 :: u44 :: u45 :: u46 :: u47 :: u48 :: u49 :: u50 :: u51 :: u52 :: u53 :: u54 :: u55 :: u56 :: u57 :: (.int .i64 L) :: x59 :: x60 :: x61 :: x62 :: x63 :: x64 :: x65 ::
   x66 :: x67 :: x68 :: x69 :: x70 :: x71 :: x72 :: x73 :: x74 :: x75 :: x76 :: x77 :: x78 :: x79 :: x80 :: x81 :: x82 :: x83 :: x84 :: x85 :: x86 :: x87 :: x88 :: x89 :: x90 :: x91 :: x92 :: x93 :: x94 :: x95 :: x96 :: x97 :: x98 :: x99 :: x100 :: x101 :: x102 ::
   u103 :: []), []⟩ w') :
  (Code.loop (loopBody Tryd.f19 2)).wp Tryd.prog Q ⟨List.toArray ((.pointer (some ⟨gM, 0, none⟩)) :: u1 :: u2 :: (.pointer (some ⟨g3, 0, none⟩)) :: u4 :: u5 :: u6 :: u7 :: u8 :: u9 :: u10 :: u11 :: u12 :: u13 :: u14 :: u15 :: u16 :: u17 :: u18 :: u19 :: u20 :: u21 :: u22 :: u23 :: u24 :: u25 :: u26 :: u27 :: u28 :: u29 ::
   u30 :: u31 :: u32 :: u33 :: u34 :: u35 :: u36 :: u37 :: u38 :: u39 :: u40 :: u41 :: u42 :: u43 :: u44 :: u45 :: u46 :: u47 :: u48 :: u49 :: u50 :: u51 :: u52 :: u53 :: u54 :: u55 :: u56 :: u57 :: (.int .i64 L) :: (.int .i64 0) :: u60 :: u61 :: u62 :: u63 ::
   u64 :: u65 :: u66 :: u67 :: u68 :: u69 :: u70 :: u71 :: u72 :: u73 :: u74 :: u75 :: u76 :: u77 :: u78 :: u79 :: u80 :: u81 :: u82 :: u83 :: u84 :: u85 :: u86 :: u87 :: u88 :: u89 :: u90 :: u91 :: u92 :: u93 :: u94 :: u95 :: u96 :: u97 :: u98 :: u99 :: u100 ::
   u101 :: u102 :: u103 :: []), []⟩ w := by
 conv => arg 2; arg 1; whnf
 go_loopw [59] (fun ii wr => ∃ (x : Nat) (v : Value) (br' : List Branch), ii = .int .i64 (x : Int) ∧ x ≤ L ∧ PlS wb wr g3 L ac.length v3 v4 v al lv br' ∧ Hid (br' = (List.range x).flatMap fun (x : Nat) => plI ac.length t x)) (fun ii _ => L - (intOf ii).toNat)
 case atStart => exact ⟨0, _, [], rfl, Nat.zero_le _, hP, rfl⟩
 case round =>
  obtain ⟨x, v, br', rfl, hx, hPP, hl⟩ := hrel
  have hM' := hPP.mach hM hg3
  obtain ⟨A, c, rfl⟩ := slice_of_own hM'.acc
  have hcm := hM'.blk.cell
  have hlen : br'.length ≤ 500000 := by
   rw [hl.out]
   have h1 := flat_len (fun (x : Nat) => plI ac.length t x) (200 * 200) (fun x => Nat.le_trans (plI_len ac.length ac.length t x) (Nat.mul_le_mul hn hn)) (List.range x)
   rw [List.length_range] at h1
   have h2 : x * (200 * 200) ≤ 8 * (200 * 200) := Nat.mul_le_mul (by omega) (Nat.le_refl _)
   omega
  by_cases hlt : x < L
  ·go_wp2_with fail
   refine pl_first hM hok hn hlt hPP hg3 hlen ?_ ?_
   ·repeat (first | exact hNQ | refine Reg.NoQ.then ?_ | refine Reg.NoQ.inBlock ?_)
   iterate 37 (intro _)
   intro w2 v2 hP2
   have hP3 := hide hP2
   clear hP2
   go_wp2_with fail
   refine ⟨⟨x + 1, _, _, by simp, by omega, hP3.out, ?_⟩, by simp [intOf]; omega⟩
   show _ = _
   rw [rangeSnoc, ← hl.out]
  ·obtain rfl : x = L := by omega
   go_wp2_with fail
   have h1 := hl.out
   subst h1
   exact hQ _ _ _ _ _ _ _ _ _ _ _ _ _ _ _ _ _ _ _ _ _ _ _ _ _ _ _ _ _ _ _ _ _ _ _ _ _ _ _ _ _ _ _ _ _ _ _ wr _ hPP
end Go.Proofs.YtbjdgepfhhafjaaDoor
namespace Go.Proofs.YtbjdgepfhhafjaaDoor
open Go.RowKit
def OwnTA (w : World) (base : Nat) (v : Value) (L n : Nat) (al : List Nat) (lv : List Leaf) (br : List Branch) : Prop :=
 ∃ va vl vb, v = .agg #[.int .i64 L, .int .i64 n, va, vl, vb] ∧ w.ownsRow base 3 1 va al.length (al.map encN) ∧ w.ownsRow base 71 2 vl lv.length (lv.flatMap lvCells) ∧ w.ownsRow base 73 4 vb br.length (br.flatMap brCells)
theorem states_cell {w : World} {gM n c : Nat} {A : Option Addr} (hc : w.cell? ⟨gM, 1, none⟩ = some (.slice A n c)) (_ : n ≤ 20000) :
  Calls Tryd.prog 37 #[.pointer (some ⟨gM, 0, none⟩)] w fun e w' => e = .returned (.int .i64 (n : Int)) ∧ w = w' := by
 go_enter Tryd.func37, Tryd.ntmps37
 go_wp2
 go_ret
 exact ⟨rfl, rfl⟩
theorem plain_any {w : World} {base gM L : Nat} {vacc vleaf vbr : Value} {ac : List Bool} {lf : List Nat} {t : List (List (List Nat))} (hM : MachA w base gM L vacc vleaf vbr ac lf t) (hok : MOK L ac lf t) (hL : L ≤ 8) (hn : ac.length ≤ 200) :
  Calls Tryd.prog 19 #[.pointer (some ⟨gM, 0, none⟩)] w (Ret fun v w' => Below w.heap.size w w' ∧ OwnTA w' w.heap.size v L ac.length (accIdx ac) (plLv lf) (plBr L ac.length t)) := by
 obtain ⟨A, c, rfl⟩ := slice_of_own hM.acc
 obtain ⟨w1, hw1, hb1, hB1, hk1⟩ := box_blk w #[.int .i64 0, .int .i64 0, .slice none 0 0, .slice none 0 0, .slice none 0 0] 40
 have hM1 := hM.keep hk1 (fun _ _ _ h => h.elim)
 have hcL : w1.cell? ⟨gM, 0, none⟩ = some (.int .i64 (L : Int)) := hM1.blk.cell 0
 have hcA : w1.cell? ⟨gM, 1, none⟩ = some (.slice A ac.length c) := hM1.blk.cell 1
 have hgM := hM1.blk.lt
 go_enter Tryd.func19, Tryd.ntmps19
 go_wp2_with fail
 go_region_held3 (fun w' => w'.cell? ⟨gM, 0, none⟩ = some (.int .i64 (L : Int)) ∧ w'.cell? ⟨gM, 1, none⟩ = some (.slice A ac.length c)) (go_keep) ((go_at_call 37; refine (states_cell (A := A) (n := ac.length) (c := c) ?_ ?_).mono ?_; (simp [*]); omega; rintro e w' ⟨rfl, rfl⟩))
 all_goals
  clear hcL hcA
  have hkb : Kept w1 (w1.alloc (.cells #[.int .i64 (L : Int), .int .i64 (ac.length : Int), .slice none 0 0, .slice none 0 0, .slice none 0 0] 40)).drew (fun _ => False) := ((Kept.refl w1 _).alloc _).drew
  have hgb : Blk (w1.alloc (.cells #[.int .i64 (L : Int), .int .i64 (ac.length : Int), .slice none 0 0, .slice none 0 0, .slice none 0 0] 40)).drew w1.heap.size 40 #[.int .i64 (L : Int), .int .i64 (ac.length : Int), .slice none 0 0, .slice none 0 0, .slice none 0 0] := Blk.new w1 40 _
  have hszb : w1.heap.size < (w1.alloc (.cells #[.int .i64 (L : Int), .int .i64 (ac.length : Int), .slice none 0 0, .slice none 0 0, .slice none 0 0] 40)).drew.heap.size := by simp
  generalize (w1.alloc (.cells #[.int .i64 (L : Int), .int .i64 (ac.length : Int), .slice none 0 0, .slice none 0 0, .slice none 0 0] 40)).drew = wb at *
  have hMb := hM1.keep hkb (fun _ _ _ h => h.elim)
  have hcmb := hMb.blk.cell
  have hP0 : PlS wb wb w1.heap.size L ac.length (.slice none 0 0) (.slice none 0 0) (.slice none 0 0) [] [] [] := ⟨Kept.refl _ _, hgb, own_nil, own_nil, own_nil⟩
  have hsz1 := hb1.size
  have hok2 := hide hok
  clear hok
  go_wp2_with fail
  refine pl_accept hMb (by omega) hP0 hgb ?_
  iterate 15 (intro _)
  intro w3 v3 hP3
  have hM3 := hP3.mach hMb hgb
  obtain ⟨A2, c2, hA2⟩ := slice_of_own hM3.lfs
  subst hA2
  have hcm3 := hM3.blk.cell
  go_wp2_with fail
  refine pl_leaves hMb (by have := hok2.out.lfl; omega) hP3 hgb ?_
  iterate 16 (intro _)
  intro w4 v4 hP4
  have hM4 := hP4.mach hMb hgb
  have hcm4 := hM4.blk.cell
  clear hcm3
  go_wp2_with fail
  refine pl_letters hMb hok2.out hn hL hP4 hgb ?_ ?_
  ·repeat (first | exact Reg.NoQ.body (fun _ _ h => h) (fun _ h => h) | refine Reg.NoQ.then ?_ | refine Reg.NoQ.inBlock ?_)
  iterate 47 (intro _)
  intro w5 v5 hP5
  obtain ⟨A3, c3, rfl⟩ := slice_of_own hP5.acc
  obtain ⟨A4, c4, rfl⟩ := slice_of_own hP5.lvs
  obtain ⟨A5, c5, rfl⟩ := slice_of_own hP5.brs
  have hc5 := hP5.blk.cell
  have hg2 : Blk w5 w.heap.size 40 #[.int .i64 0, .int .i64 0, .slice none 0 0, .slice none 0 0, .slice none 0 0] := (hB1.kept hkb id).kept hP5.kept (by have := hB1.lt; omega)
  have hc2 := hg2.cell
  have hf2 := hg2.frozen
  have hl2 := hg2.lt
  clear hcm4 hcmb
  go_wp2_with fail
  have hgF := ((((hg2.set_ 0 (.int .i64 (L : Int))).set_ 1 (.int .i64 (ac.length : Int))).set_ 2 (.slice A3 (accIdx ac).length c3)).set_ 3 (.slice A4 (plLv lf).length c4)).set_ 4 (.slice A5 (plBr L ac.length t).length c5)
  have hkF : Kept w5 (((((w5.setCell ⟨w.heap.size, 0, none⟩ (.int .i64 (L : Int))).setCell ⟨w.heap.size, 1, none⟩ (.int .i64 (ac.length : Int))).setCell ⟨w.heap.size, 2, none⟩ (.slice A3 (accIdx ac).length c3)).setCell ⟨w.heap.size, 3, none⟩ (.slice A4 (plLv lf).length c4)).setCell ⟨w.heap.size, 4, none⟩ (.slice A5 (plBr L ac.length t).length c5)) (fun k => k = w.heap.size) :=
   (((((Kept.refl w5 (fun k => k = w.heap.size)).setCell (p := ⟨w.heap.size, 0, none⟩) (fun _ => rfl) _).setCell (p := ⟨w.heap.size, 1, none⟩) (fun _ => rfl) _).setCell (p := ⟨w.heap.size, 2, none⟩) (fun _ => rfl) _).setCell (p := ⟨w.heap.size, 3, none⟩) (fun _ => rfl) _).setCell (p := ⟨w.heap.size, 4, none⟩) (fun _ => rfl) _
  generalize (((((w5.setCell ⟨w.heap.size, 0, none⟩ (.int .i64 (L : Int))).setCell ⟨w.heap.size, 1, none⟩ (.int .i64 (ac.length : Int))).setCell ⟨w.heap.size, 2, none⟩ (.slice A3 (accIdx ac).length c3)).setCell ⟨w.heap.size, 3, none⟩ (.slice A4 (plLv lf).length c4)).setCell ⟨w.heap.size, 4, none⟩ (.slice A5 (plBr L ac.length t).length c5)) = wF at *
  have hcF := hgF.cell
  have hne : ∀ e, e ≠ 40 → ∀ g cs, g = w.heap.size → ¬ Blk w5 g e cs := fun e he g cs eg hb => by subst eg; exact hg2.ne_ hb (fun h => he h.symm) rfl
  have hw : w.heap.size ≤ wb.heap.size := by omega
  have hk05 : Kept w w5 (fun _ => False) := hk1.trans (hkb.trans hP5.kept (fun b hb e => by omega)) (fun _ _ h => h)
  have hbelow : Below w.heap.size w wF := (hk05.below (Nat.le_refl _) (fun _ _ h => h)).trans (hkF.below hk05.size (fun b hb e => by omega))
  refine bodyPost_ret (v := .agg #[.int .i64 (L : Int), .int .i64 (ac.length : Int), .slice A3 (accIdx ac).length c3, .slice A4 (plLv lf).length c4, .slice A5 (plBr L ac.length t).length c5]) (by simp [results, Tryd.results19, go_sem, hcF]) rfl ⟨hbelow, _, _, _, rfl, ?_, ?_, ?_⟩
  ·exact own_weak (own_ty hkF hP5.acc (hne 3 (by decide))) hw
  ·exact own_weak (own_ty hkF hP5.lvs (hne 71 (by decide))) hw
  ·exact own_weak (own_ty hkF hP5.brs (hne 73 (by decide))) hw
end Go.Proofs.YtbjdgepfhhafjaaDoor
namespace Go.Proofs.YtbjdgepfhhafjaaDoor
open Go.RowKit
def vtGo (L : Int) : Int → List Int → List Int → Bool
 | o, [], [] => o == 0
 | o, c :: sh, l :: lb => o != 0 && (c == 0 || c == 2) && decide (0 ≤ l) && decide (l < L) && vtGo L (o + c - 1) sh lb
 | _, _, _ => false
def validT (L : Int) (sh lb : List Int) : Bool := decide (1 ≤ sh.length) && decide (sh.length ≤ 4095) && decide (lb.length = sh.length) && vtGo L 1 sh lb
theorem vtGo_step {L o c l : Int} {sh lb : List Int} {i : Nat} (hc : sh[i]? = some c) (hl : lb[i]? = some l) : vtGo L o (sh.drop i) (lb.drop i) = (o != 0 && (c == 0 || c == 2) && decide (0 ≤ l) && decide (l < L) && vtGo L (o + c - 1) (sh.drop (i + 1)) (lb.drop (i + 1))) := by
 have h1 : sh.drop i = c :: sh.drop (i + 1) := by
  have := lt_of_get hc
  rw [List.drop_eq_getElem_cons this]
  rw [List.getElem?_eq_getElem this] at hc
  rw [Option.some.inj hc]
 have h2 : lb.drop i = l :: lb.drop (i + 1) := by
  have := lt_of_get hl
  rw [List.drop_eq_getElem_cons this]
  rw [List.getElem?_eq_getElem this] at hl
  rw [Option.some.inj hl]
 rw [h1, h2]
 rfl
theorem validTree_len {w : World} {B1 B2 c1 c2 : Nat} {A1 A2 : Option Addr} {L : Int} {sh lb : List Int} (h1 : Sl w B1 1 encI A1 sh) (h2 : Sl w B2 1 encI A2 lb) (hs1 : 1 ≤ sh.length) (hs2 : sh.length ≤ 4095) (hl : lb.length = sh.length) :
  Calls Tryd.prog 11 #[.int .i64 L, .slice A1 sh.length c1, .slice A2 sh.length c2] w fun e w' => e = .returned (.bool (vtGo L 1 sh lb)) ∧ w = w' := by
 have hll := hide hl
 go_enter Tryd.func11, Tryd.ntmps11
 have hA : ((sh.length : Int) != (sh.length : Int)) = false := by simp
 clear hl
 go_wp2
 go_loop [7, 27] (fun oo ii => ∃ (i : Nat) (o : Int), ii = .int .i64 (i : Int) ∧ i ≤ sh.length ∧ oo = .int .i64 o ∧ 0 ≤ o ∧ o ≤ i + 1 ∧ Hid (vtGo L 1 sh lb = vtGo L o (sh.drop i) (lb.drop i))) (fun _ ii => sh.length - (intOf ii).toNat)
 case atStart => exact ⟨0, 1, rfl, Nat.zero_le _, rfl, by omega, by omega, rfl⟩
 case round =>
  obtain ⟨i, o, rfl, hi, rfl, ho0, ho1, hv⟩ := hrel
  by_cases hlt : i < sh.length
  ·obtain ⟨b1, o1, c, rfl, hb1, hc, hcc⟩ := h1.at hlt
   obtain ⟨b2, o2, l, rfl, hb2, hl, hlc⟩ := h2.at (k := i) (by rw [hll.out]; exact hlt)
   have hc0 := hcc 0 (by omega)
   have hl0 := hlc 0 (by omega)
   simp only [Nat.mul_one, Nat.add_zero, encI] at hc0 hl0
   have hst := hide (vtGo_step (L := L) (o := o) hc hl)
   clear hc hl hcc hlc
   by_cases h0 : o = 0
   ·subst h0
    go_wp2_with fail
    go_ret
    exact ⟨by rw [hv.out, hst.out]; rfl, rfl⟩
   ·have h0' : (o == 0) = false := by simpa using h0
    by_cases hc2 : c = 0 ∨ c = 2
    ·by_cases hln : l < 0
     ·rcases hc2 with rfl | rfl
      all_goals
       have hln' : decide (l < 0) = true := by simpa using hln
       have hfin : Hid (vtGo L 1 sh lb = false) := by show _ = _; rw [hv.out, hst.out]; simp; omega
       go_wp2_with fail
       go_ret
       exact ⟨by rw [hfin.out]; rfl, rfl⟩
     ·have hln' : decide (l < 0) = false := by simpa using hln
      by_cases hlL : L ≤ l
      ·rcases hc2 with rfl | rfl
       all_goals
        have hfin : Hid (vtGo L 1 sh lb = false) := by show _ = _; rw [hv.out, hst.out]; simp; omega
        go_wp2_with fail
        go_ret
        exact ⟨by rw [hfin.out]; rfl, rfl⟩
      ·have hlL2 : l < L := by omega
       have hln2 : 0 ≤ l := by omega
       rcases hc2 with rfl | rfl
       ·have hfin : Hid (vtGo L 1 sh lb = vtGo L (o + -1) (sh.drop (i + 1)) (lb.drop (i + 1))) := by
         show _ = _
         rw [hv.out, hst.out, show o + 0 - 1 = o + -1 from by omega]
         simp [hln2, hlL2, h0]
        go_wp2_with fail
        exact ⟨⟨i + 1, o + -1, by simp, by omega, rfl, by omega, by omega, hfin.out⟩, by simp [intOf]; omega⟩
       ·have hfin : Hid (vtGo L 1 sh lb = vtGo L (o + 1) (sh.drop (i + 1)) (lb.drop (i + 1))) := by
         show _ = _
         rw [hv.out, hst.out, show o + 2 - 1 = o + 1 from by omega]
         simp [hln2, hlL2, h0]
        go_wp2_with fail
        exact ⟨⟨i + 1, o + 1, by simp, by omega, rfl, by omega, by omega, hfin.out⟩, by simp [intOf]; omega⟩
    ·have hn0 : (c != 0) = true := by simp; omega
     have hn2 : (c != 2) = true := by simp; omega
     have hfin : Hid (vtGo L 1 sh lb = false) := by
      show _ = _
      rw [hv.out, hst.out]
      have e1 : (c == 0) = false := by simp; omega
      have e2 : (c == 2) = false := by simp; omega
      simp [e1, e2]
     go_wp2_with fail
     go_ret
     exact ⟨by rw [hfin.out]; rfl, rfl⟩
  ·have hfin : Hid (vtGo L 1 sh lb = (o == 0)) := by
    show _ = _
    rw [hv.out, List.drop_eq_nil_of_le (by omega), List.drop_eq_nil_of_le (by rw [hll.out]; omega)]
    rfl
   by_cases h0 : o = 0
   ·subst h0
    go_wp2_with fail
    go_ret
    exact ⟨by rw [hfin.out]; rfl, rfl⟩
   ·have h0' : (o == 0) = false := by simpa using h0
    go_wp2_with fail
    go_ret
    exact ⟨by rw [hfin.out, h0']; rfl, rfl⟩
theorem validTree_any {w : World} {B1 B2 c1 c2 : Nat} {A1 A2 : Option Addr} {L : Int} {sh lb : List Int} (h1 : Sl w B1 1 encI A1 sh) (h2 : Sl w B2 1 encI A2 lb) :
  Calls Tryd.prog 11 #[.int .i64 L, .slice A1 sh.length c1, .slice A2 lb.length c2] w fun e w' => e = .returned (.bool (validT L sh lb)) ∧ w = w' := by
 have hn1 := h1.1
 have hn2 := h2.1
 by_cases hl : lb.length = sh.length
 ·by_cases hs1 : 1 ≤ sh.length
  ·by_cases hs2 : sh.length ≤ 4095
   ·rw [hl]
    have : validT L sh lb = vtGo L 1 sh lb := by simp [validT, hl, hs1, hs2]
    rw [this]
    exact validTree_len h1 h2 hs1 hs2 hl
   ·have hv : Hid (validT L sh lb = false) := by show _ = _; simp [validT, hs2]
    clear hl
    go_enter Tryd.func11, Tryd.ntmps11
    go_wp2
    go_ret
    exact ⟨by rw [hv.out]; rfl, rfl⟩
  ·have hv : Hid (validT L sh lb = false) := by show _ = _; simp [validT, hs1]
   clear hl
   go_enter Tryd.func11, Tryd.ntmps11
   go_wp2
   go_ret
   exact ⟨by rw [hv.out]; rfl, rfl⟩
 ·have hv : Hid (validT L sh lb = false) := by show _ = _; simp [validT, hl]
  have hne : ((lb.length : Int) != (sh.length : Int)) = true := by simp; omega
  by_cases hs : 1 ≤ sh.length <;> by_cases hs2 : sh.length ≤ 4095
  all_goals
   clear hl
   go_enter Tryd.func11, Tryd.ntmps11
   go_wp2
   all_goals
    go_ret
    exact ⟨by rw [hv.out]; rfl, rfl⟩
end Go.Proofs.YtbjdgepfhhafjaaDoor
namespace Go.Proofs.YtbjdgepfhhafjaaDoor
open Go.RowKit
def zeroTA : Value := .agg #[.int .i64 0, .int .i64 0, .slice none 0 0, .slice none 0 0, .slice none 0 0]
def MinimalRes (w' : World) (base : Nat) (a : TA) (v : Value) : Prop :=
 (a.valid = false ∧ v = .tuple #[zeroTA, .int .i64 1]) ∨ (a.valid = true ∧ a.Large ∧ v = .tuple #[zeroTA, .int .i64 4]) ∨
 (a.valid = true ∧ ¬ a.Large ∧ ∃ ac lf t va, v = .tuple #[va, .int .i64 0] ∧ MOK a.letters.toNat ac lf t ∧ ac.length ≤ 64 ∧ Canon a.letters.toNat ac.length (mleaf lf) (mbr t) (macc ac) a.lang ∧
  OwnTA w' base va a.letters.toNat ac.length (accIdx ac) (plLv lf) (plBr a.letters.toNat ac.length t))
def set5 (w : World) (g : Nat) (v0 v1 v2 v3 v4 : Value) : World := ((((w.setCell ⟨g, 0, none⟩ v0).setCell ⟨g, 1, none⟩ v1).setCell ⟨g, 2, none⟩ v2).setCell ⟨g, 3, none⟩ v3).setCell ⟨g, 4, none⟩ v4
theorem set5_facts {w : World} {g : Nat} {e : TypeId} {a0 a1 a2 a3 a4 : Value} (h : Blk w g e #[a0, a1, a2, a3, a4]) (v0 v1 v2 v3 v4 : Value) : ∃ wF, set5 w g v0 v1 v2 v3 v4 = wF ∧ Blk wF g e #[v0, v1, v2, v3, v4] ∧ Kept w wF (fun k => k = g) :=
 ⟨_, rfl, ((((h.set_ 0 v0).set_ 1 v1).set_ 2 v2).set_ 3 v3).set_ 4 v4,
  (((((Kept.refl w (fun k => k = g)).setCell (p := ⟨g, 0, none⟩) (fun _ => rfl) v0).setCell (p := ⟨g, 1, none⟩) (fun _ => rfl) v1).setCell (p := ⟨g, 2, none⟩) (fun _ => rfl) v2).setCell (p := ⟨g, 3, none⟩) (fun _ => rfl) v3).setCell (p := ⟨g, 4, none⟩) (fun _ => rfl) v4⟩
theorem Minimal_any (v : Value) (a : TA) (w : World) (h : IsTA w w.heap.size v a) (hbig : a.branches.length ≤ 900000) :
  Calls Tryd.prog 10 #[v] w (Ret fun v w' => Below w.heap.size w w' ∧ MinimalRes w' w.heap.size a v) := by
 obtain ⟨A1, c1, A2, c2, A3, c3, rfl, h1, h2, h3⟩ := h
 obtain ⟨w1, hw1, hb1, hB1, hk1⟩ := box_blk w #[.int .i64 a.letters, .int .i64 a.states, .slice A1 a.accept.length c1, .slice A2 a.leaves.length c2, .slice A3 a.branches.length c3] 40
 obtain ⟨w2, hw2, hb2, hB2, hk2⟩ := box_blk w1 #[.int .i64 0, .int .i64 0, .slice none 0 0, .slice none 0 0, .slice none 0 0] 40
 have hsz1 := hb1.size
 have hsz2 := hb2.size
 have hB12 := hB1.kept hk2 id
 have hcb := hB12.cell
 have hb02 : Below w.heap.size w w2 := hb1.trans (hb2.mono hsz1)
 have hT : IsTA w2 w2.heap.size (.agg #[.int .i64 a.letters, .int .i64 a.states, .slice A1 a.accept.length c1, .slice A2 a.leaves.length c2, .slice A3 a.branches.length c3]) a :=
  IsTA.keep ⟨A1, c1, A2, c2, A3, c3, rfl, h1, h2, h3⟩ (fun _ hp => hb02.cell hp) (by omega)
 have hTT := hide hT
 clear hT h1 h2 h3
 go_enter Tryd.func10, Tryd.ntmps10
 go_wp2_with fail
 refine (validate_any _ a w2 hTT.out).mono ?_
 rintro e w3 ⟨rfl, hb3⟩
 have hB13 := hB12.below hb3
 have hB23 := hB2.below hb3
 have hcb3 := hB13.cell
 have hc23 := hB23.cell
 have hf23 := hB23.frozen
 have hsz3 := hb3.size
 have hlt3 := hB23.lt
 have hb03 : Below w.heap.size w w3 := hb02.trans (hb3.mono (by omega))
 cases hv : a.valid with
 | false =>
  have hvv := hide hv
  clear hv
  have he : errno false = 1 := rfl
  rw [he]
  go_wp2_with fail
  obtain ⟨wF, hwF, hgF, hkF⟩ := set5_facts hB23 (.int .i64 0) (.int .i64 0) (.slice none 0 0) (.slice none 0 0) (.slice none 0 0)
  change bodyPost _ _ _ _ _ (set5 w3 w1.heap.size (.int .i64 0) (.int .i64 0) (.slice none 0 0) (.slice none 0 0) (.slice none 0 0))
  rw [hwF]
  have hcF := hgF.cell
  exact bodyPost_ret (v := .tuple #[zeroTA, .int .i64 1]) (by simp [results, Tryd.results10, go_sem, hcF, zeroTA]) rfl ⟨hb03.trans (hkF.below (by omega) (fun b hb e => by omega)), .inl ⟨hvv.out, rfl⟩⟩
 | true =>
  have hvv := hide hv
  have hbg := hide hbig
  clear hv hbig
  have he : errno true = 0 := rfl
  rw [he]
  have hT3 : IsTA w3 w3.heap.size (.agg #[.int .i64 a.letters, .int .i64 a.states, .slice A1 a.accept.length c1, .slice A2 a.leaves.length c2, .slice A3 a.branches.length c3]) a := hTT.out.keep (fun _ hp => hb3.cell hp) hsz3
  have hT33 := hide hT3
  clear hT3 he
  go_wp2_with fail
  refine Calls.ret (treeMin_any _ a w3 hT33.out hvv.out hbg.out) ?_
  rintro v w4 ⟨hb4, hres⟩
  have hB24 := hB23.below hb4
  have hc24 := hB24.cell
  have hf24 := hB24.frozen
  have hsz4 := hb4.size
  have hlt4 := hB24.lt
  have hb04 : Below w.heap.size w w4 := hb03.trans (hb4.mono (by omega))
  rcases hres with ⟨rfl, hlg⟩ | ⟨gM, ac, lf, t, rfl, hgM, hM, hok, hle, hnl, hcan⟩
  ·have hL := hide hlg
   clear hlg
   go_wp2_with fail
   obtain ⟨wF, hwF, hgF, hkF⟩ := set5_facts hB24 (.int .i64 0) (.int .i64 0) (.slice none 0 0) (.slice none 0 0) (.slice none 0 0)
   change bodyPost _ _ _ _ _ (set5 w4 w1.heap.size (.int .i64 0) (.int .i64 0) (.slice none 0 0) (.slice none 0 0) (.slice none 0 0))
   rw [hwF]
   have hcF := hgF.cell
   exact bodyPost_ret (v := .tuple #[zeroTA, .int .i64 4]) (by simp [results, Tryd.results10, go_sem, hcF, zeroTA]) rfl ⟨hb04.trans (hkF.below (by omega) (fun b hb e => by omega)), .inr (.inl ⟨hvv.out, hL.out, rfl⟩)⟩
  ·obtain ⟨u1, u2, u3, hMA⟩ := hM
   have hMM := hide hMA
   have hOO := hide hok
   have hNL := hide hnl
   have hCC := hide hcan
   have hv2 := hvv.out
   have hL8 : a.letters.toNat ≤ 8 := by
    simp only [TA.valid, TA.head, Bool.and_eq_true, decide_eq_true_eq] at hv2
    omega
   clear hMA hok hnl hcan hv2
   go_wp2_with fail
   refine Calls.ret (plain_any hMM.out hOO.out hL8 (by omega)) ?_
   rintro v w5 ⟨hb5, va, vl, vb, rfl, ho1, ho2, ho3⟩
   obtain ⟨A5, d5, rfl⟩ := slice_of_own ho1
   obtain ⟨A6, d6, rfl⟩ := slice_of_own ho2
   obtain ⟨A7, d7, rfl⟩ := slice_of_own ho3
   have hB25 := hB24.below hb5
   have hc25 := hB25.cell
   have hf25 := hB25.frozen
   have hsz5 := hb5.size
   have hlt5 := hB25.lt
   have hb05 : Below w.heap.size w w5 := hb04.trans (hb5.mono (by omega))
   clear hc24 hf24 hc23 hf23 hcb3 hcb
   generalize hLe : a.letters.toNat = L at *
   have hLh := hide hLe
   clear hLe
   go_wp2_with fail
   obtain ⟨wF, hwF, hgF, hkF⟩ := set5_facts hB25 (.int .i64 (L : Int)) (.int .i64 (ac.length : Int)) (.slice A5 (accIdx ac).length d5) (.slice A6 (plLv lf).length d6) (.slice A7 (plBr L ac.length t).length d7)
   change bodyPost _ _ _ _ _ (set5 w5 w1.heap.size (.int .i64 (L : Int)) (.int .i64 (ac.length : Int)) (.slice A5 (accIdx ac).length d5) (.slice A6 (plLv lf).length d6) (.slice A7 (plBr L ac.length t).length d7))
   rw [hwF]
   have hcF := hgF.cell
   have hLx := hLh.out
   subst hLx
   have hne : ∀ e, e ≠ 40 → ∀ g cs, g = w1.heap.size → ¬ Blk w5 g e cs := fun e he g cs eg hb => by subst eg; exact hB25.ne_ hb (fun h => he h.symm) rfl
   refine bodyPost_ret (v := .tuple #[.agg #[.int .i64 (a.letters.toNat : Int), .int .i64 (ac.length : Int), .slice A5 (accIdx ac).length d5, .slice A6 (plLv lf).length d6, .slice A7 (plBr a.letters.toNat ac.length t).length d7], .int .i64 0]) (by simp [results, Tryd.results10, go_sem, hcF]) rfl ⟨hb05.trans (hkF.below (by omega) (fun b hb e => by omega)), .inr (.inr ⟨hvv.out, hNL.out, ac, lf, t, _, rfl, hOO.out, hle, hCC.out, _, _, _, rfl, ?_, ?_, ?_⟩)⟩
   ·exact own_weak (own_ty hkF ho1 (hne 3 (by decide))) (by omega)
   ·exact own_weak (own_ty hkF ho2 (hne 71 (by decide))) (by omega)
   ·exact own_weak (own_ty hkF ho3 (hne 73 (by decide))) (by omega)
def a0 : TA := { letters := 1, states := 0, accept := [], leaves := [], branches := [] }
theorem a0_run : ∀ tr : Tr, runT a0.leafS a0.brS tr = 0
 | .leaf _ => rfl
 | .node _ _ _ => rfl
theorem a0_lang (tr : Tr) : a0.lang tr = false := by
 unfold TA.lang
 rw [a0_run]
 rfl
theorem a0_small : ¬ a0.Large := by
 rintro ⟨l, hn, hR, hl⟩
 have h0 : ∀ s ∈ l, s ∈ [0] := fun s hs => by
  obtain ⟨tr, _, rfl⟩ := reach_run.1 (hR s hs)
  rw [a0_run]
  simp
 have := sub_len l [0] hn h0
 simp at this
 omega
theorem a0_valid : a0.valid = true := by decide
theorem a0_one {ac : List Bool} {lf : List Nat} {t : List (List (List Nat))} (hok : MOK 1 ac lf t) (hc : Canon 1 ac.length (mleaf lf) (mbr t) (macc ac) a0.lang) : ac.length = 1 ∧ accIdx ac = [] := by
 have hE : ∀ r, ∀ t u : Tr, EqT 1 a0.lang r t u := by
  intro r
  induction r with
  | zero => exact fun t u => (a0_lang t).trans (a0_lang u).symm
  | succ r ih => exact fun t u => ⟨ih t u, fun x _ c _ => ⟨ih _ _, ih _ _⟩⟩
 have hpos := hok.pos (by omega)
 have h1 : ∀ q, q < ac.length → q = mleaf lf 0 := fun q hq => by
  obtain ⟨tr, htr, rfl⟩ := reach_run.1 (hok.isM.reach q hq)
  exact hc.sep tr (.leaf 0) htr (by show 0 < 1; omega) fun r => hE r _ _
 have hn : ac.length = 1 := by
  rcases Nat.lt_or_ge 1 ac.length with h | h
  ·have e1 := h1 0 (by omega)
   have e2 := h1 1 h
   omega
  ·omega
 refine ⟨hn, ?_⟩
 unfold accIdx
 rw [List.filter_eq_nil_iff]
 intro i hi
 have hi' := List.mem_range.1 hi
 have e1 := h1 i hi'
 have := hc.lang (.leaf 0) (by show 0 < 1; omega)
 rw [a0_lang] at this
 rw [e1]
 have h2 : macc ac (mleaf lf 0) = false := this
 rw [h2]
 simp
theorem sl_blk {w : World} {g : Nat} {cs : List Int} (h : Blk w g 3 (cs.map (fun x => encI x 0)).toArray) (hl : cs.length ≤ 1000) : Sl w w.heap.size 1 encI (some ⟨g, 0, none⟩) cs :=
 ⟨by omega, fun _ => ⟨g, 0, rfl, h.lt, fun k d hd j hj => by
  rw [h.cell]
  have : j = 0 := by omega
  subst this
  simp [hd]⟩⟩
theorem known_any (w : World) : Calls Tryd.prog 5 #[] w (Ret fun v w' => v = .bool true ∧ Below w.heap.size w w') := by
 have hT : IsTA w w.heap.size (.agg #[.int .i64 1, .int .i64 0, .slice none 0 0, .slice none 0 0, .slice none 0 0]) a0 := ⟨none, 0, none, 0, none, 0, rfl, Sl.nil rfl, Sl.nil rfl, Sl.nil rfl⟩
 have hTT := hide hT
 clear hT
 go_enter Tryd.func5, Tryd.ntmps5
 go_wp2_with fail
 refine Calls.ret (Minimal_any _ a0 w hTT.out (by simp [a0])) ?_
 rintro v w1 ⟨hb1, hres⟩
 rcases hres with ⟨h, -⟩ | ⟨-, h, -⟩ | ⟨-, -, ac, lf, t, va, rfl, hok, hle, hcan, vac, vlv, vbr, rfl, ho1, ho2, ho3⟩
 ·exact absurd (a0_valid.symm.trans h) (by decide)
 ·exact absurd h a0_small
 have hL1 : a0.letters.toNat = 1 := rfl
 rw [hL1] at hok hcan ho3
 obtain ⟨hn, ha⟩ := a0_one hok hcan
 have hlv : (plLv lf).length = 1 := by simp [plLv, hok.lfl]
 have hbr : (plBr 1 ac.length t).length = 1 := by rw [hn]; simp [plBr]
 rw [ha] at ho1
 rw [hlv] at ho2
 rw [hbr] at ho3
 obtain ⟨A1, d1, rfl⟩ := slice_of_own ho1
 obtain ⟨A2, d2, rfl⟩ := slice_of_own ho2
 obtain ⟨A3, d3, rfl⟩ := slice_of_own ho3
 have hn2 := hide hn
 rw [hn, hL1]
 clear ho1 ho2 ho3 hlv hbr hok hcan ha hle hn hL1
 go_wp2_with fail
 have h3 : ∀ X : Obj, Blk (((w1.alloc X).alloc (.cells #[.int .i64 2, .int .i64 0, .int .i64 0] 3)).alloc (.cells #[.int .i64 0, .int .i64 0, .int .i64 0] 3)) (w1.heap.size + 1) 3 #[.int .i64 2, .int .i64 0, .int .i64 0] ∧
   Blk (((w1.alloc X).alloc (.cells #[.int .i64 2, .int .i64 0, .int .i64 0] 3)).alloc (.cells #[.int .i64 0, .int .i64 0, .int .i64 0] 3)) (w1.heap.size + 1 + 1) 3 #[.int .i64 0, .int .i64 0, .int .i64 0] ∧
   Below w1.heap.size w1 (((w1.alloc X).alloc (.cells #[.int .i64 2, .int .i64 0, .int .i64 0] 3)).alloc (.cells #[.int .i64 0, .int .i64 0, .int .i64 0] 3)) := fun X => by
  have e1 := Blk.new (w1.alloc X) 3 #[.int .i64 2, .int .i64 0, .int .i64 0]
  have e2 := Blk.new ((w1.alloc X).alloc (.cells #[.int .i64 2, .int .i64 0, .int .i64 0] 3)) 3 #[.int .i64 0, .int .i64 0, .int .i64 0]
  have e3 : (w1.alloc X).heap.size = w1.heap.size + 1 := by simp
  have e4 : ((w1.alloc X).alloc (.cells #[.int .i64 2, .int .i64 0, .int .i64 0] 3)).heap.size = w1.heap.size + 1 + 1 := by simp
  rw [e3] at e1
  rw [e4] at e2
  exact ⟨e1.kept ((Kept.refl _ (fun _ => False)).alloc _) id, e2, (((Below.refl _ _).alloc (Nat.le_refl _) _).alloc (by rw [e3]; omega) _).alloc (by rw [e4]; omega) _⟩
 obtain ⟨hb2, hb3, hbw⟩ := h3 (.cells #[.int .i64 1, .int .i64 1, .slice A1 0 d1, .slice A2 1 d2, .slice A3 1 d3] 40)
 have hval : validT 1 [2, 0, 0] [0, 0, 0] = true := by decide
 have hvv := hide hval
 have hbb := hide (hb1.trans (hbw.mono hb1.size))
 have hs2 := sl_blk (cs := [2, 0, 0]) hb2 (by simp)
 have hs3 := sl_blk (cs := [0, 0, 0]) hb3 (by simp)
 refine (validTree_any (L := 1) (c1 := 3) (c2 := 3) hs2 hs3).mono ?_
 rintro e w' ⟨rfl, rfl⟩
 rw [hvv.out]
 clear hs2 hs3 hb2 hb3 hbw h3 hval
 go_wp2_with fail
 go_ret
 exact ⟨rfl, hbb.out⟩
def TA.big (a : TA) : Bool := decide (300 < a.accept.length) || decide (300 < a.leaves.length) || decide (800 < a.branches.length)
end Go.Proofs.YtbjdgepfhhafjaaDoor
