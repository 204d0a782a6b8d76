/-
  Part PK of a proof.
-/
import Derived.Deep.LoopGhost
import Derived.Test.YtakpmdmjbgipiaaGreatDoorPA
import Derived.Test.YtakpmdmjbgipiaaGreatDoorPJ
import Derived.Test.YtakpmdmjbgipiaaGreatDoorPB
set_option maxHeartbeats 16000000
set_option maxRecDepth 100000
set_option linter.unusedVariables false
set_option linter.unusedSimpArgs false
namespace Go.Proofs.YtakpmdmjbgipiaaGreatDoor
open Go.RowKit
set_option maxHeartbeats 4000000
def loopsOf : Code → List Code
 | .loop c => c :: loopsOf c
 | .seq a b => loopsOf a ++ loopsOf b
 | .block _ c => loopsOf c
 | .scope c => loopsOf c
 | .cond _ a b => loopsOf a ++ loopsOf b
 | _ => []
def loopBody (f : Func) (k : Nat) : Code := match f.body with
 | some c => (loopsOf c).getD k .skip
 | none => .skip
def rowV (l : List Nat) : List Value := (natL l).map (Value.int .i64)
def farV (l : List Int) : Array Value := (l.map (Value.int .i64)).toArray
theorem farV_get {l : List Int} {i : Nat} {x : Int} (h : l[i]? = some x) : (farV l)[i]? = some (.int .i64 x) := by
 unfold farV
 rw [List.getElem?_toArray]
 exact map_get h
theorem farV_set (l : List Int) (i : Nat) (x : Int) : (farV l).setIfInBounds i (.int .i64 x) = farV (l.set i x) := by
 unfold farV
 apply Array.ext'
 simp [List.map_set]
theorem farV_rep (n : Nat) : Array.replicate n (Value.int .i64 0) = farV (List.replicate n 0) := by
 unfold farV
 apply Array.ext'
 simp
theorem rowV_snoc (l : List Nat) (x : Nat) : rowV (l ++ [x]) = rowV l ++ [.int .i64 (x : Int)] := by
 unfold rowV
 rw [natL_snoc, List.map_append]
 rfl
structure DisM (w0 wr : World) (n gf gb : Nat) (far : List Int) (u : Nat → Value) (l : Nat → List Nat) : Prop where
 below : Below w0.heap.size w0 wr
 farB : Blk wr gf 3 (farV far)
 top : Blk wr gb 22 (rangeC n u)
 own : ∀ y, y < n → wr.ownsRow w0.heap.size 3 1 (u y) (l y).length (rowV (l y))
 sep : ∀ y, y < n → ∀ y', y' < n → ∀ g, (u y).ownBlock = some g → (u y').ownBlock = some g → y = y'
 fsep : ∀ y, y < n → (u y).ownBlock ≠ some gf
 ge : w0.heap.size ≤ gf ∧ w0.heap.size ≤ gb
structure QueO (w0 wr : World) (n gf : Nat) (u : Nat → Value) (vq : Value) (qs : List Nat) : Prop where
 own : wr.ownsRow w0.heap.size 3 1 vq qs.length (rowV qs)
 sep : ∀ y, y < n → ∀ g, (u y).ownBlock = some g → vq.ownBlock ≠ some g
 fsep : vq.ownBlock ≠ some gf
section
variable {w0 wr w1 : World} {n gf gb : Nat} {far : List Int} {u : Nat → Value} {l : Nat → List Nat} {vq : Value} {qs : List Nat}
theorem DisM.keep (h : DisM w0 wr n gf gb far u l) (hb : Below wr.heap.size wr w1) : DisM w0 w1 n gf gb far u l :=
 ⟨h.below.trans (hb.mono h.below.size), h.farB.below hb, h.top.below hb, fun y hy => own_below (h.own y hy) hb, h.sep, h.fsep, h.ge⟩
theorem QueO.keep (h : QueO w0 wr n gf u vq qs) (hb : Below wr.heap.size wr w1) : QueO w0 w1 n gf u vq qs := ⟨own_below h.own hb, h.sep, h.fsep⟩
theorem DisM.ne (h : DisM w0 wr n gf gb far u l) : gf ≠ gb := h.farB.ne_ h.top (by decide)
theorem DisM.setF (h : DisM w0 wr n gf gb far u l) (s : Nat) (x : Int) : DisM w0 (wr.setCell ⟨gf, s, none⟩ (.int .i64 x)) n gf gb (far.set s x) u l := by
 have hk := (Kept.refl wr (fun k => k = gf)).setCell (p := ⟨gf, s, none⟩) (fun _ => rfl) (.int .i64 x)
 refine ⟨h.below.trans (hk.below h.below.size fun b hb e => by have := h.ge.1; omega), ?_, h.top.kept hk (fun e => h.ne e.symm), fun y hy => hk.ownsRow (h.own y hy) (fun g hg e => h.fsep y hy (by rw [hg, e])), h.sep, h.fsep, h.ge⟩
 have := h.farB.set_ s (.int .i64 x)
 rwa [farV_set] at this
theorem QueO.setF (h : QueO w0 wr n gf u vq qs) (s : Nat) (x : Value) : QueO w0 (wr.setCell ⟨gf, s, none⟩ x) n gf u vq qs :=
 ⟨((Kept.refl wr (fun k => k = gf)).setCell (p := ⟨gf, s, none⟩) (fun _ => rfl) x).ownsRow h.own (fun _ hg e => h.fsep (by rw [hg, e])), h.sep, h.fsep⟩
theorem DisM.push (h : DisM w0 wr n gf gb far u l) {y s : Nat} (hy : y < n) {v' : Value} (hk : Kept wr w1 (fun k => (u y).ownBlock = some k)) (ho : w1.ownsRow w0.heap.size 3 1 v' ((l y).length + 1) (rowV (l y) ++ [.int .i64 (s : Int)])) (hmv : Moved wr (u y) v') :
  DisM w0 (w1.setCell ⟨gb, y, none⟩ v') n gf gb far (up1 u y v') (up1 l y (l y ++ [s])) := by
 have hof := h.own y hy
 have hs := h.below.size
 have hk2 := (Kept.refl w1 (fun k => k = gb)).setCell (p := ⟨gb, y, none⟩) (fun _ => rfl) v'
 have ht1 : Blk w1 gb 22 (rangeC n u) := h.top.kept hk (own_blk_ne hof h.top (by decide))
 have hf1 : Blk w1 gf 3 (farV far) := h.farB.kept hk (h.fsep y hy)
 have hlt : ∀ z, z < n → ∀ g, (u z).ownBlock = some g → g < wr.heap.size := fun z hz g hg => own_lt (h.own z hz) hg
 have hnew : ∀ z, z < n → z ≠ y → ∀ g, v'.ownBlock = some g → (u z).ownBlock ≠ some g := fun z hz hne g hg e => by
  rcases hmv with h1 | ⟨g', h1, h2⟩
  ·exact hne (h.sep z hz y hy g e (by rw [← h1]; exact hg))
  ·rw [hg] at h1
   have := hlt z hz g e
   injection h1 with h1
   omega
 refine ⟨(h.below.trans (hk.below hs fun b hb e => by have := own_base hof e; omega)).trans (hk2.below (by have := hk.size; omega) fun b hb e => by have := h.ge.2; omega), hf1.kept hk2 h.ne, ?_, fun z hz => ?_, fun z hz z' hz' g hg hg' => ?_, fun z hz => ?_, h.ge⟩
 ·have h1 := ht1.set_ y v'
  rw [rangeC_set] at h1
  exact h1
 ·by_cases e : z = y
  ·subst e
   have e1 : up1 u z v' z = v' := by simp [up1]
   have e2 : up1 l z (l z ++ [s]) z = l z ++ [s] := by simp [up1]
   rw [e1, e2, List.length_append, rowV_snoc]
   exact own_ty hk2 ho (fun g cs hg hB => by subst hg; exact hB.ne_ ht1 (by decide) rfl)
  ·have e1 : up1 u y v' z = u z := by simp [up1, e]
   have e2 : up1 l y (l y ++ [s]) z = l z := by simp [up1, e]
   rw [e1, e2]
   exact own_ty hk2 (hk.ownsRow (h.own z hz) fun g hg hx => e (h.sep z hz y hy g hg hx)) (fun g cs hg hB => by subst hg; exact hB.ne_ ht1 (by decide) rfl)
 ·unfold up1 at hg hg'
  by_cases e1 : z = y <;> by_cases e2 : z' = y
  ·exact e1.trans e2.symm
  ·rw [if_pos e1] at hg
   rw [if_neg e2] at hg'
   exact absurd hg' (hnew z' hz' e2 g hg)
  ·rw [if_neg e1] at hg
   rw [if_pos e2] at hg'
   exact absurd hg (hnew z hz e1 g hg')
  ·rw [if_neg e1] at hg
   rw [if_neg e2] at hg'
   exact h.sep z hz z' hz' g hg hg'
 ·unfold up1
  split
  ·exact hmv.ne h.farB.lt (h.fsep y hy)
  ·exact h.fsep z hz
theorem QueO.push (h : QueO w0 wr n gf u vq qs) (hD : DisM w0 wr n gf gb far u l) {y : Nat} (hy : y < n) {v' : Value} (hk : Kept wr w1 (fun k => (u y).ownBlock = some k)) (hmv : Moved wr (u y) v') :
  QueO w0 (w1.setCell ⟨gb, y, none⟩ v') n gf (up1 u y v') vq qs := by
 have hk2 := (Kept.refl w1 (fun k => k = gb)).setCell (p := ⟨gb, y, none⟩) (fun _ => rfl) v'
 have ht1 : Blk w1 gb 22 (rangeC n u) := hD.top.kept hk (own_blk_ne (hD.own y hy) hD.top (by decide))
 refine ⟨own_ty hk2 (hk.ownsRow h.own fun g hg hx => h.sep y hy g hx hg) (fun g cs hg hB => by subst hg; exact hB.ne_ ht1 (by decide) rfl), fun z hz g hg => ?_, h.fsep⟩
 unfold up1 at hg
 split at hg
 ·intro e
  rcases hmv with h1 | ⟨g', h1, h2⟩
  ·exact h.sep y hy g (by rw [← h1]; exact hg) e
  ·rw [hg] at h1
   injection h1 with h1
   have := own_lt h.own e
   omega
 ·exact h.sep z hz g hg
theorem QueO.join (h : QueO w0 wr n gf u vq qs) (hD : DisM w0 wr n gf gb far u l) {s : Nat} {v' : Value} (hk : Kept wr w1 (fun k => vq.ownBlock = some k)) (ho : w1.ownsRow w0.heap.size 3 1 v' (qs.length + 1) (rowV qs ++ [.int .i64 (s : Int)])) (hmv : Moved wr vq v') :
  QueO w0 w1 n gf u v' (qs ++ [s]) ∧ DisM w0 w1 n gf gb far u l := by
 refine ⟨⟨by rw [List.length_append, rowV_snoc]; exact ho, fun y hy g hg e => ?_, hmv.ne hD.farB.lt h.fsep⟩, ?_⟩
 ·rcases hmv with h1 | ⟨g', h1, h2⟩
  ·exact h.sep y hy g hg (by rw [← h1]; exact e)
  ·rw [e] at h1
   injection h1 with h1
   have := own_lt (hD.own y hy) hg
   omega
 ·exact ⟨hD.below.trans (hk.below hD.below.size fun b hb e => by have := own_base h.own e; omega), hD.farB.kept hk h.fsep, hD.top.kept hk (own_blk_ne h.own hD.top (by decide)), fun y hy => hk.ownsRow (hD.own y hy) (fun g hg e => h.sep y hy g hg e), hD.sep, hD.fsep, hD.ge⟩
end
structure QueQ (w0 wr : World) (n gf : Nat) (u : Nat → Value) (A : Option Addr) (c : Nat) (qs : List Nat) : Prop where
 row : qs ≠ [] → ∃ g off, A = some ⟨g, off, none⟩ ∧ QRow wr w0.heap.size g off qs.length c qs ∧ (∀ y, y < n → (u y).ownBlock ≠ some g) ∧ g ≠ gf
section
variable {w0 wr w1 : World} {n gf gb : Nat} {far : List Int} {u : Nat → Value} {l : Nat → List Nat} {A : Option Addr} {c : Nat} {qs : List Nat}
theorem QueO.cut (h : QueO w0 wr n gf u (.slice A qs.length c) qs) : QueQ w0 wr n gf u A c qs := by
 refine ⟨fun hne => ?_⟩
 have hne' : qs.length ≠ 0 := fun e => hne (List.length_eq_zero_iff.1 e)
 rcases h.own.2 with ⟨hv, _⟩ | ⟨g, cap, cur, hv, _⟩
 ·injection hv with _ e _
  exact absurd e hne'
 ·injection hv with hg _ hc
  subst hg hc
  have := h.own
  exact ⟨g, 0, rfl, QRow.of_own this, fun y hy e => h.sep y hy g e rfl, fun e => h.fsep (by rw [← e]; rfl)⟩
theorem QueQ.keep (h : QueQ w0 wr n gf u A c qs) (hb : Below wr.heap.size wr w1) : QueQ w0 w1 n gf u A c qs := by
 refine ⟨fun hne => ?_⟩
 obtain ⟨g, off, e, hq, h1, h2⟩ := h.row hne
 exact ⟨g, off, e, hq.keep (Kept.of_below hb (fun _ => False)) id, h1, h2⟩
theorem QueQ.setF (h : QueQ w0 wr n gf u A c qs) (s : Nat) (x : Value) : QueQ w0 (wr.setCell ⟨gf, s, none⟩ x) n gf u A c qs := by
 refine ⟨fun hne => ?_⟩
 obtain ⟨g, off, e, hq, h1, h2⟩ := h.row hne
 exact ⟨g, off, e, hq.keep ((Kept.refl wr (fun k => k = gf)).setCell (p := ⟨gf, s, none⟩) (fun _ => rfl) x) h2, h1, h2⟩
theorem QueQ.tail {q g off : Nat} (h : QueQ w0 wr n gf u (some ⟨g, off, none⟩) c (q :: qs)) : QueQ w0 wr n gf u (some ⟨g, off + 1, none⟩) (c - 1) qs := by
 refine ⟨fun _ => ?_⟩
 obtain ⟨g', off', e, hq, h1, h2⟩ := h.row (by simp)
 injection e with e
 injection e with e1 e2
 subst e1 e2
 exact ⟨g, off + 1, rfl, hq.tail, h1, h2⟩
theorem QueQ.join {q g off g' off' c' : Nat} {s : Nat} (h : QueQ w0 wr n gf u (some ⟨g, off, none⟩) c (q :: qs)) (hD : DisM w0 wr n gf gb far u l) (hq' : QRow w1 w0.heap.size g' off' (qs.length + 1 + 1) c' (q :: qs ++ [s])) (hk : Kept wr w1 (fun k => k = g)) (hg : g' = g ∨ wr.heap.size ≤ g') :
  QueQ w0 w1 n gf u (some ⟨g', off', none⟩) c' (q :: qs ++ [s]) ∧ DisM w0 w1 n gf gb far u l := by
 obtain ⟨g2, off2, e, hq, h1, h2⟩ := h.row (by simp)
 injection e with e
 injection e with e1 e2
 subst e1 e2
 have hb : w0.heap.size ≤ g := hq.1
 have ht : Blk wr g 3 _ := hq.2.2.2.choose_spec.1
 refine ⟨⟨fun _ => ⟨g', off', rfl, by simpa using hq', fun y hy e => ?_, fun e => ?_⟩⟩, ?_⟩
 ·rcases hg with rfl | hg
  ·exact h1 y hy e
  ·have := own_lt (hD.own y hy) e; omega
 ·rcases hg with rfl | hg
  ·exact h2 e
  ·have := hD.farB.lt; omega
 ·exact ⟨hD.below.trans (hk.below hD.below.size fun b hb e => by omega), hD.farB.kept hk (fun e => h2 e.symm), hD.top.kept hk (hD.top.ne_ ht (by decide)), fun y hy => hk.ownsRow (hD.own y hy) (fun g' hg' e => h1 y hy (by rw [hg', e])), hD.sep, hD.fsep, hD.ge⟩
end
end Go.Proofs.YtakpmdmjbgipiaaGreatDoor
namespace Go.Proofs.YtakpmdmjbgipiaaGreatDoor
open Go.RowKit
set_option maxHeartbeats 16000000
set_option maxRecDepth 100000
theorem NF.row_at {w : World} {B : Nat} {a : NF} {A1 : Option Addr} (h : VSl R2 w B A1 a.nx) (hok : a.OK) {s : Nat} (hs : s < a.n) :
  ∃ b off A c, A1 = some ⟨b, off, none⟩ ∧ b < B ∧ w.cell? ⟨b, off + s, none⟩ = some (.slice A a.L c) ∧
   ∀ x, x < a.L → ∃ b2 off2 A' c', A = some ⟨b2, off2, none⟩ ∧ b2 < B ∧ w.cell? ⟨b2, off2 + x, none⟩ = some (.slice A' (a.to s x).length c') ∧ Sl w B 1 encI A' (a.to s x) := by
 obtain ⟨r, hr⟩ := get_lt (l := a.nx) (i := s) hs
 obtain ⟨b, off, v, h1, h2, h3, A, c, rfl, h4⟩ := h.at hr
 have hrl := hok.row r (List.mem_of_getElem? hr)
 refine ⟨b, off, A, c, h1, h2, by rw [h3, hrl], fun x hx => ?_⟩
 obtain ⟨l, hl⟩ := get_lt (l := r) (i := x) (by omega)
 obtain ⟨b2, off2, v2, e1, e2, e3, A', c', rfl, e4⟩ := h4.at hl
 have : a.to s x = l := by unfold NF.to; rw [getD_some hr, getD_some hl]
 rw [this]
 exact ⟨b2, off2, A', c', e1, e2, e3, e4⟩
theorem NF.to_in {a : NF} (hok : a.OK) {s x : Nat} (hs : s < a.n) (hx : x < a.L) {y : Int} (hy : y ∈ a.to s x) : inN a.n y = true := by
 obtain ⟨r, hr⟩ := get_lt (l := a.nx) (i := s) hs
 have hrl := hok.row r (List.mem_of_getElem? hr)
 obtain ⟨l, hl⟩ := get_lt (l := r) (i := x) (by omega)
 have : a.to s x = l := by unfold NF.to; rw [getD_some hr, getD_some hl]
 rw [this] at hy
 exact hok.to r (List.mem_of_getElem? hr) l (List.mem_of_getElem? hl) y hy
theorem dis_j {wI w1 w : World} {a : NF} {n s x gf gb m c' : Nat} {A' : Option Addr} {far : List Int} {uA : Nat → Value} {vq : Value} {qs : List Nat} (hok : a.OK) (hmE : m = (a.to s x).length) (hnE : n = a.n) (hsn : s < n) (hxl : x < a.L)
  (hS : Sl wI wI.heap.size 1 encI A' (a.to s x)) (hb1 : Below wI.heap.size wI w1) (hE : (a.psS a.n).length ≤ 3000000) (hD0 : DisM w1 w n gf gb far uA (bkOf (a.ps s x 0))) (hQ0 : QueO w1 w n gf uA vq qs)
  {u0 u1 u2 u3 u5 u7 u8 u9 u10 u11 u12 u13 u14 u15 u16 u17 u18 u19 u20 u21 u22 u23 u24 u25 u26 u27 u28 u29 u30 u31 u32 u33 u34 u35 u36 u37 u38 u42 u43 u44 u45 u46 u47 u48 u49 u50 u51 u52 u53 u54 u55 u56 u57 u58 u59 u60 u61 u62 u63 u64 u65 u66 u67 u68 u69 u70 u71 u72 u73 u74 u75 u76 u77 u78 u79 u80 u81 u82 u83 u84 u85 u86 u87 u88 u89 u90 u91 u92 u93 u94 u95 u96 u97 u98 u99 u100 u101 u102 u103 u104 u105 u106 : Value} {Q : Exit → Act → World → Prop}
  (hQQ : ∀ (x11 x41 x42 x43 x44 x45 x46 x47 x48 x49 x50 x51 x52 x53 x54 x55 : Value) (w' : World) (uB : Nat → Value), DisM w1 w' n gf gb far uB (bkOf (a.ps s (x + 1) 0)) → QueO w1 w' n gf uB vq qs → Q (.exit 4) ⟨List.toArray (u0 :: u1 :: u2 :: u3 :: (.slice (some ⟨gb, 0, none⟩) n n) :: u5 :: (.int .i64 (s : Int)) :: u7 :: u8 :: u9 :: u10 :: x11 :: u12 :: u13 :: u14 :: u15 :: u16 :: u17 :: u18 :: u19 :: u20 :: u21 :: u22 :: u23 :: u24 :: u25 :: u26 :: u27 :: u28 :: u29 :: u30 :: u31 ::
   u32 :: u33 :: u34 :: u35 :: u36 :: u37 :: u38 :: (.slice A' m c') :: (.int .i64 (m : Int)) :: x41 :: x42 :: x43 :: x44 :: x45 :: x46 :: x47 :: x48 :: x49 :: x50 :: x51 :: x52 :: x53 :: x54 :: x55 :: u56 :: u57 :: u58 :: u59 :: u60 :: u61 :: u62 :: u63 :: u64 ::
   u65 :: u66 :: u67 :: u68 :: u69 :: u70 :: u71 :: u72 :: u73 :: u74 :: u75 :: u76 :: u77 :: u78 :: u79 :: u80 :: u81 :: u82 :: u83 :: u84 :: u85 :: u86 :: u87 :: u88 :: u89 :: u90 :: u91 :: u92 :: u93 :: u94 :: u95 :: u96 :: u97 :: u98 :: u99 :: u100 :: u101 ::
   u102 :: u103 :: u104 :: u105 :: u106 :: []), []⟩ w') :
  (Code.loop (loopBody Tryz.f71 2)).wp Tryz.prog Q ⟨List.toArray (u0 :: u1 :: u2 :: u3 :: (.slice (some ⟨gb, 0, none⟩) n n) :: u5 :: (.int .i64 (s : Int)) :: u7 :: u8 :: u9 :: u10 :: u11 :: u12 :: u13 :: u14 :: u15 :: u16 :: u17 :: u18 :: u19 :: u20 :: u21 :: u22 :: u23 :: u24 :: u25 :: u26 :: u27 :: u28 :: u29 :: u30 :: u31 ::
   u32 :: u33 :: u34 :: u35 :: u36 :: u37 :: u38 :: (.slice A' m c') :: (.int .i64 (m : Int)) :: (.int .i64 0) :: u42 :: u43 :: u44 :: u45 :: u46 :: u47 :: u48 :: u49 :: u50 :: u51 :: u52 :: u53 :: u54 :: u55 :: u56 :: u57 :: u58 :: u59 :: u60 :: u61 :: u62 ::
   u63 :: u64 :: u65 :: u66 :: u67 :: u68 :: u69 :: u70 :: u71 :: u72 :: u73 :: u74 :: u75 :: u76 :: u77 :: u78 :: u79 :: u80 :: u81 :: u82 :: u83 :: u84 :: u85 :: u86 :: u87 :: u88 :: u89 :: u90 :: u91 :: u92 :: u93 :: u94 :: u95 :: u96 :: u97 :: u98 :: u99 ::
   u100 :: u101 :: u102 :: u103 :: u104 :: u105 :: u106 :: []), []⟩ w := by
 conv => arg 2; arg 1; whnf
 have hm9 : m ≤ 3000000 := by rw [hmE]; exact Nat.le_trans (a.to_len (by omega) hxl) hE
 have hokH := hide hok
 have hmH := hide hmE
 have hnH := hide hnE
 have hS2H := hide hS
 have hb1H := hide hb1
 have hEH := hide hE
 have hD2 := hide hD0
 have hQ2 := hide hQ0
 have hs1 := hb1.size
 have hsn2 : s < a.n := by omega
 have hto := hide (fun y (hy : y ∈ a.to s x) => NF.to_in hok hsn2 hxl hy)
 have hpl := hide (fun j => a.ps_len (j := j) hsn2 hxl)
 clear hok hmE hnE hS hb1 hE hD0 hQ0
 go_loopw [41] (fun jj wz => ∃ (j : Nat) (u : Nat → Value), jj = .int .i64 (j : Int) ∧ j ≤ m ∧ Hid (DisM w1 wz n gf gb far u (bkOf (a.ps s x j))) ∧ Hid (QueO w1 wz n gf u vq qs)) (fun jj _ => m - (intOf jj).toNat)
 case atStart => exact ⟨0, uA, rfl, Nat.zero_le _, hD2, hQ2⟩
 case round =>
  obtain ⟨j, uB, rfl, hj, hD3, hQ3⟩ := hrel
  have hb3r := hide (hb1H.out.trans (hD3.out.below.mono hs1))
  by_cases hjm : j < m
  ·obtain ⟨z, hz⟩ := get_lt (l := a.to s x) (i := j) (by rw [← hmH.out]; exact hjm)
   obtain ⟨y, rfl, hy⟩ := inN_nat (hto.out z (List.mem_of_getElem? hz))
   simp only [Int.toNat_natCast] at hy
   rw [← hnH.out] at hy
   obtain ⟨b3, o3, rfl, hb3', hc3'⟩ := sl_intat hS2H.out hz
   have hc3r := (hb3r.out.cell (p := ⟨b3, o3 + j, none⟩) hb3').trans hc3'
   have hst := hide (a.ps_step hz)
   have hown := hD3.out.own y hy
   obtain ⟨Au, cu, hu⟩ := slice_of_own hown
   rw [hu] at hown
   have hcu : wr.cell? ⟨gb, y, none⟩ = some (.slice Au (bkOf (a.ps s x j) y).length cu) := by rw [hD3.out.top.cell, rangeC_get _ hy, hu]
   have hlen : (bkOf (a.ps s x j) y).length ≤ 3000000 := Nat.le_trans (bkOf_len _ _) (Nat.le_trans (hpl.out j) hEH.out)
   obtain ⟨k, hk⟩ : ∃ k, k = (bkOf (a.ps s x j) y).length := ⟨_, rfl⟩
   have hkH := hide hk
   rw [← hk] at hown hcu hlen hu
   have hsz := hD3.out.below.size
   have huH := hide hu
   have hownH := hide hown
   clear hz hc3' hu hk hown
   go_wp2_with (
    at_builtin
    refine wpList_app_new (w := wr) row3 rfl _ _ rfl w1.heap.size (.slice Au k cu) k _ rfl hownH.out [.int .i64 (s : Int)] 1 rfl rfl (by simp [Value.oneCell']) (by omega) hsz ?_
    intro g cap w6 hown6 hk6 hmv6 hg6
    have hk6' : Kept wr w6 (fun b => (uB y).ownBlock = some b) := by rw [huH.out]; exact hk6
    have hmv6' : Moved wr (uB y) (.slice (some ⟨g, 0, none⟩) (k + 1) cap) := by rw [huH.out]; exact hmv6
    have hD6 := hide (hD3.out.push (s := s) hy hk6' (by rw [← hkH.out]; exact hown6) hmv6')
    have hQ6 := hide (hQ3.out.push hD3.out hy hk6' hmv6')
    have ht6 : Blk w6 gb 22 (rangeC n uB) := hD3.out.top.kept hk6' (own_blk_ne (hD3.out.own y hy) hD3.out.top (by decide))
    have hc6 : w6.cell? ⟨gb, y, none⟩ = some (uB y) := by rw [ht6.cell, rangeC_get _ hy]
    have hf6 := ht6.frozen y
    have hl6 := ht6.lt
    clear hown6 hk6 hmv6 hk6' hmv6' ht6)
   refine ⟨⟨j + 1, _, by go_num, by omega, ?_, hQ6⟩, by simp [intOf]; omega⟩
   have e : bkOf (a.ps s x (j + 1)) = up1 (bkOf (a.ps s x j)) y (bkOf (a.ps s x j) y ++ [s]) := by
    funext z
    rw [hst.out, bkOf_step]
    unfold up1
    by_cases e : z = y
    ·subst e; simp
    ·simp [e]
   show DisM _ _ _ _ _ _ _ _
   rw [e]
   exact hD6.out
  ·obtain rfl : j = m := by omega
   go_wp2_with fail
   refine hQQ _ _ _ _ _ _ _ _ _ _ _ _ _ _ _ _ _ uB ?_ hQ3.out
   have := hD3.out
   rw [NF.ps_row (by rw [← hmH.out]; exact Nat.le_refl _)] at this
   exact this
theorem dis_x {wI w1 w : World} {a : NF} {n L s gf gb cr : Nat} {Ar : Option Addr} {far : List Int} {uA : Nat → Value} {vq : Value} {qs : List Nat} (hok : a.OK) (hnE : n = a.n) (hLE : L = a.L) (hL8 : L ≤ 8) (hsn : s < n)
  (hrow : ∀ x, x < a.L → ∃ b2 off2 A' c', Ar = some ⟨b2, off2, none⟩ ∧ b2 < wI.heap.size ∧ wI.cell? ⟨b2, off2 + x, none⟩ = some (.slice A' (a.to s x).length c') ∧ Sl wI wI.heap.size 1 encI A' (a.to s x)) (hb1 : Below wI.heap.size wI w1) (hE : (a.psS a.n).length ≤ 3000000)
  (hD0 : DisM w1 w n gf gb far uA (bkOf (a.ps s 0 0))) (hQ0 : QueO w1 w n gf uA vq qs)
  {u0 u1 u2 u3 u5 u7 u8 u9 u10 u11 u12 u13 u14 u15 u16 u17 u18 u19 u20 u21 u22 u23 u24 u25 u26 u27 u28 u29 u30 u31 u32 u36 u37 u38 u39 u40 u41 u42 u43 u44 u45 u46 u47 u48 u49 u50 u51 u52 u53 u54 u55 u56 u57 u58 u59 u60 u61 u62 u63 u64 u65 u66 u67 u68 u69 u70 u71 u72 u73 u74 u75 u76 u77 u78 u79 u80 u81 u82 u83 u84 u85 u86 u87 u88 u89 u90 u91 u92 u93 u94 u95 u96 u97 u98 u99 u100 u101 u102 u103 u104 u105 u106 : Value} {Q : Exit → Act → World → Prop}
  (hQQ : ∀ (x9 x11 x35 x36 x37 x38 x39 x40 x41 x42 x43 x44 x45 x46 x47 x48 x49 x50 x51 x52 x53 x54 x55 x56 : Value) (w' : World) (uB : Nat → Value), DisM w1 w' n gf gb far uB (bkOf (a.ps (s + 1) 0 0)) → QueO w1 w' n gf uB vq qs → Q (.exit 2) ⟨List.toArray (u0 :: u1 :: u2 :: u3 :: (.slice (some ⟨gb, 0, none⟩) n n) :: u5 :: (.int .i64 (s : Int)) :: u7 :: u8 :: x9 :: u10 :: x11 :: u12 :: u13 :: u14 :: u15 :: u16 :: u17 :: u18 :: u19 :: u20 :: u21 :: u22 :: u23 :: u24 :: u25 :: u26 :: u27 :: u28 :: u29 :: u30 :: u31 ::
   u32 :: (.slice Ar L cr) :: (.int .i64 (L : Int)) :: x35 :: x36 :: x37 :: x38 :: x39 :: x40 :: x41 :: x42 :: x43 :: x44 :: x45 :: x46 :: x47 :: x48 :: x49 :: x50 :: x51 :: x52 :: x53 :: x54 :: x55 :: x56 :: u57 :: u58 :: u59 :: u60 :: u61 :: u62 :: u63 :: u64 ::
   u65 :: u66 :: u67 :: u68 :: u69 :: u70 :: u71 :: u72 :: u73 :: u74 :: u75 :: u76 :: u77 :: u78 :: u79 :: u80 :: u81 :: u82 :: u83 :: u84 :: u85 :: u86 :: u87 :: u88 :: u89 :: u90 :: u91 :: u92 :: u93 :: u94 :: u95 :: u96 :: u97 :: u98 :: u99 :: u100 :: u101 ::
   u102 :: u103 :: u104 :: u105 :: u106 :: []), []⟩ w') :
  (Code.loop (loopBody Tryz.f71 1)).wp Tryz.prog Q ⟨List.toArray (u0 :: u1 :: u2 :: u3 :: (.slice (some ⟨gb, 0, none⟩) n n) :: u5 :: (.int .i64 (s : Int)) :: u7 :: u8 :: u9 :: u10 :: u11 :: u12 :: u13 :: u14 :: u15 :: u16 :: u17 :: u18 :: u19 :: u20 :: u21 :: u22 :: u23 :: u24 :: u25 :: u26 :: u27 :: u28 :: u29 :: u30 :: u31 ::
   u32 :: (.slice Ar L cr) :: (.int .i64 (L : Int)) :: (.int .i64 0) :: u36 :: u37 :: u38 :: u39 :: u40 :: u41 :: u42 :: u43 :: u44 :: u45 :: u46 :: u47 :: u48 :: u49 :: u50 :: u51 :: u52 :: u53 :: u54 :: u55 :: u56 :: u57 :: u58 :: u59 :: u60 :: u61 :: u62 ::
   u63 :: u64 :: u65 :: u66 :: u67 :: u68 :: u69 :: u70 :: u71 :: u72 :: u73 :: u74 :: u75 :: u76 :: u77 :: u78 :: u79 :: u80 :: u81 :: u82 :: u83 :: u84 :: u85 :: u86 :: u87 :: u88 :: u89 :: u90 :: u91 :: u92 :: u93 :: u94 :: u95 :: u96 :: u97 :: u98 :: u99 ::
   u100 :: u101 :: u102 :: u103 :: u104 :: u105 :: u106 :: []), []⟩ w := by
 conv => arg 2; arg 1; whnf
 have hokH := hide hok
 have hnH := hide hnE
 have hLH := hide hLE
 have hrowH := hide hrow
 have hb1H := hide hb1
 have hEH := hide hE
 have hD7 := hide hD0
 have hQ7 := hide hQ0
 have hs1 := hb1.size
 have hQQH := hide hQQ
 clear hok hnE hLE hrow hb1 hE hD0 hQ0 hQQ
 go_loopw [35] (fun xx wz => ∃ (x : Nat) (u : Nat → Value), xx = .int .i64 (x : Int) ∧ x ≤ L ∧ Hid (DisM w1 wz n gf gb far u (bkOf (a.ps s x 0))) ∧ Hid (QueO w1 wz n gf u vq qs)) (fun xx _ => L - (intOf xx).toNat)
 case atStart => exact ⟨0, uA, rfl, Nat.zero_le _, hD7, hQ7⟩
 case round =>
  obtain ⟨x, uA, rfl, hx, hD2, hQ2⟩ := hrel
  have hb2r := hide (hb1H.out.trans (hD2.out.below.mono hs1))
  by_cases hxl : x < L
  ·have hxl2 : x < a.L := by rw [← hLH.out]; exact hxl
   obtain ⟨b2, o2, A', c', rfl, hb2', hc2', hS2⟩ := hrowH.out x hxl2
   have hc2r := (hb2r.out.cell (p := ⟨b2, o2 + x, none⟩) hb2').trans hc2'
   have hS2H := hide hS2
   obtain ⟨m, hm⟩ : ∃ m, m = (a.to s x).length := ⟨_, rfl⟩
   have hmH := hide hm
   rw [← hm] at hc2r
   clear hS2 hc2' hm
   go_wp2_with fail
   refine dis_j hokH.out hmH.out hnH.out hsn hxl2 hS2H.out hb1H.out hEH.out hD2.out hQ2.out ?_
   iterate 16 (intro _)
   intro w' uB hD3 hQ3
   have hD3H := hide hD3
   have hQ3H := hide hQ3
   clear hD3 hQ3
   go_wp2_with fail
   exact ⟨⟨x + 1, uB, by go_num, by omega, hD3H, hQ3H⟩, by simp [intOf]; omega⟩
  ·obtain rfl : x = L := by omega
   go_wp2_with fail
   refine hQQH.out _ _ _ _ _ _ _ _ _ _ _ _ _ _ _ _ _ _ _ _ _ _ _ _ _ uA ?_ hQ2.out
   have := hD2.out
   rw [hLH.out, NF.ps_state] at this
   exact this
theorem dis_k {w1 w : World} {a : NF} {n gf gb hd kd m m0 q1 c cu : Nat} {A Au : Option Addr} {far : List Int} {u : Nat → Value} {t : List Nat} (hnE : n = a.n) (hn : n ≤ 200000) (hhs : hd < n) (hkd8 : kd ≤ 200000) (hmE : m = (bkOf (a.psS a.n) hd).length) (hm9 : m ≤ 3000000) (hu : u hd = .slice Au m cu)
  (hq1 : q1 ≤ 200000) (hqE : q1 = t.length + 1) (hD0 : DisM w1 w n gf gb far u (bkOf (a.psS a.n))) (hQ0 : QueQ w1 w n gf u A c (hd :: t)) (hJ0 : a.BfsJ far hd t kd m0 0)
  {u0 u1 u2 u4 u6 u7 u8 u9 u10 u11 u12 u13 u14 u15 u16 u17 u18 u19 u20 u21 u22 u23 u24 u25 u26 u27 u28 u29 u30 u31 u32 u33 u34 u35 u36 u37 u38 u39 u40 u41 u42 u43 u44 u45 u46 u47 u48 u49 u50 u51 u52 u53 u54 u55 u56 u57 u58 u59 u60 u61 u62 u63 u64 u65 u66 u67 u68 u69 u70 u71 u72 u73 u74 u75 u76 u77 u78 u79 u83 u84 u85 u86 u87 u88 u89 u90 u91 u92 u93 u94 u95 u96 u97 u98 u99 u100 u101 u102 u103 u104 u105 u106 : Value} {Q : Exit → Act → World → Prop}
  (hQQ : ∀ (x13 x82 x83 x84 x85 x86 x87 x88 x89 x90 x91 x92 x93 x94 x95 x96 x97 x98 x99 x100 x101 x102 x103 x104 x105 : Value) (w' : World) (far : List Int) (t : List Nat) (q1 c g off : Nat), q1 = t.length → q1 + 1 ≤ c → q1 ≤ 200000 → DisM w1 w' n gf gb far u (bkOf (a.psS a.n)) → QueQ w1 w' n gf u (some ⟨g, off + 1, none⟩) (c - 1) t → a.Bfs far t → t.length + und far = m0 → Q (.exit 8) ⟨List.toArray (u0 :: u1 :: u2 :: (.slice (some ⟨gf, 0, none⟩) n n) :: u4 :: (.slice (some ⟨g, off, none⟩) (q1 + 1) c) :: u6 :: u7 :: u8 :: u9 :: u10 :: u11 :: u12 :: x13 :: u14 :: u15 :: u16 :: u17 :: u18 :: u19 :: u20 :: u21 :: u22 :: u23 :: u24 :: u25 :: u26 :: u27 :: u28 ::
   u29 :: u30 :: u31 :: u32 :: u33 :: u34 :: u35 :: u36 :: u37 :: u38 :: u39 :: u40 :: u41 :: u42 :: u43 :: u44 :: u45 :: u46 :: u47 :: u48 :: u49 :: u50 :: u51 :: u52 :: u53 :: u54 :: u55 :: u56 :: u57 :: u58 :: u59 :: u60 :: u61 :: u62 :: u63 :: u64 :: u65 ::
   u66 :: u67 :: u68 :: u69 :: u70 :: u71 :: u72 :: u73 :: u74 :: u75 :: u76 :: u77 :: u78 :: u79 :: (.slice Au m cu) :: (.int .i64 (m : Int)) :: x82 :: x83 :: x84 :: x85 :: x86 :: x87 :: x88 :: x89 :: x90 :: x91 :: x92 :: x93 :: x94 :: x95 :: x96 :: x97 :: x98 ::
   x99 :: x100 :: x101 :: x102 :: x103 :: x104 :: x105 :: u106 :: []), []⟩ w') :
  (Code.loop (loopBody Tryz.f71 4)).wp Tryz.prog Q ⟨List.toArray (u0 :: u1 :: u2 :: (.slice (some ⟨gf, 0, none⟩) n n) :: u4 :: (.slice A q1 c) :: u6 :: u7 :: u8 :: u9 :: u10 :: u11 :: u12 :: u13 :: u14 :: u15 :: u16 :: u17 :: u18 :: u19 :: u20 :: u21 :: u22 :: u23 :: u24 :: u25 :: u26 :: u27 :: u28 :: u29 :: u30 :: u31 ::
   u32 :: u33 :: u34 :: u35 :: u36 :: u37 :: u38 :: u39 :: u40 :: u41 :: u42 :: u43 :: u44 :: u45 :: u46 :: u47 :: u48 :: u49 :: u50 :: u51 :: u52 :: u53 :: u54 :: u55 :: u56 :: u57 :: u58 :: u59 :: u60 :: u61 :: u62 :: u63 :: u64 :: u65 :: u66 :: u67 :: u68 ::
   u69 :: u70 :: u71 :: u72 :: u73 :: u74 :: u75 :: u76 :: u77 :: u78 :: u79 :: (.slice Au m cu) :: (.int .i64 (m : Int)) :: (.int .i64 0) :: u83 :: u84 :: u85 :: u86 :: u87 :: u88 :: u89 :: u90 :: u91 :: u92 :: u93 :: u94 :: u95 :: u96 :: u97 :: u98 :: u99 ::
   u100 :: u101 :: u102 :: u103 :: u104 :: u105 :: u106 :: []), []⟩ w := by
 conv => arg 2; arg 1; whnf
 have hhd : hd < a.n := by omega
 have hnH := hide hnE
 have hmH := hide hmE
 have huH := hide hu
 have hq1H := hide hqE
 have hD4 := hide hD0
 have hQ4 := hide hQ0
 have hJ0H := hide hJ0
 have hQQH := hide hQQ
 clear hnE hmE hu hqE hD0 hQ0 hJ0 hQQ
 go_loopw [5, 82] (fun qq jj wz => ∃ (far : List Int) (t : List Nat) (q1 c j : Nat) (A : Option Addr), qq = .slice A q1 c ∧ q1 ≤ 200000 ∧ Hid (q1 = t.length + 1) ∧ jj = .int .i64 (j : Int) ∧ j ≤ m ∧ Hid (DisM w1 wz n gf gb far u (bkOf (a.psS a.n))) ∧ Hid (QueQ w1 wz n gf u A c (hd :: t)) ∧ Hid (a.BfsJ far hd t kd m0 j)) (fun _ jj _ => m - (intOf jj).toNat)
 case atStart => exact ⟨far, t, q1, c, 0, _, rfl, hq1, hq1H, rfl, Nat.zero_le _, hD4, hQ4, hJ0H⟩
 case round =>
  obtain ⟨far5, t5, q5, c5, j, A5, rfl, hq5, hqs5, rfl, hj, hD5, hQ5, hJ5⟩ := hrel
  obtain ⟨g5, o5, rfl, hqr5, hsep5, hgf5⟩ := hQ5.out.row (by simp)
  by_cases hjm : j < m
  ·obtain ⟨r, hr⟩ := get_lt (l := bkOf (a.psS a.n) hd) (i := j) (by rw [← hmH.out]; exact hjm)
   have hown5 := hD5.out.own hd hhs
   rw [huH.out, ← hmH.out] at hown5
   obtain ⟨gu, cu', e, hcr⟩ := own_get hown5 (map_get (f := Value.int .i64) (map_get (f := fun x : Nat => (x : Int)) hr))
   injection e with e1 _ e3
   subst e1 e3
   have hrn : r < a.n := (NF.mem_back.1 (List.mem_of_getElem? hr)).1
   obtain ⟨z, hz⟩ := get_lt (l := far5) (i := r) (by rw [hJ5.out.bfs.len]; exact hrn)
   have hcf : wr.cell? ⟨gf, r, none⟩ = some (.int .i64 z) := by rw [hD5.out.farB.cell, farV_get hz]
   have hzD : far5.getD r (-1) = z := getD_some hz
   have hff := hD5.out.farB.frozen r
   have hlf := hD5.out.farB.lt
   have hrs : r < n := by rw [hnH.out]; exact hrn
   have hrH := hide hr
   rcases hJ5.out.bfs.ge r hrn with hz1 | ⟨kz, hz1, _⟩
   ·have hzn : z = -1 := by omega
    subst hzn
    have hzH := hide hzD
    have hcq5 : wr.cell? ⟨g5, o5, none⟩ = some (.int .i64 (hd : Int)) := hqr5.cell (j := 0) rfl
    obtain ⟨zh, hzh⟩ := get_lt (l := far5) (i := hd) (by rw [hJ5.out.bfs.len]; exact hhd)
    have hzk : zh = (kd : Int) := by have := hJ5.out.hk; rw [getD_some hzh] at this; exact this
    subst hzk
    have hch : wr.cell? ⟨gf, hd, none⟩ = some (.int .i64 (kd : Int)) := by rw [hD5.out.farB.cell, farV_get hzh]
    obtain ⟨w8, hw8⟩ : ∃ w8, wr.setCell ⟨gf, r, none⟩ (.int .i64 ((kd : Int) + 1)) = w8 := ⟨_, rfl⟩
    have hD8 := hD5.out.setF r ((kd : Int) + 1)
    have hQ8 := hQ5.out.setF (gf := gf) r (.int .i64 ((kd : Int) + 1))
    rw [hw8] at hD8 hQ8
    have hD8H := hide hD8
    have hQ8H := hide hQ8
    obtain ⟨g8, o8, e8, hqr8, -, -⟩ := hQ8.row (by simp)
    injection e8 with e8
    injection e8 with e81 e82
    subst e81 e82
    have hqrH := hide (show QRow w8 w1.heap.size g5 o5 q5 c5 (hd :: t5) from by have := hqs5.out; rw [this]; exact hqr8)
    have hs8 := hD8.below.size
    have hJ6 := hide (hJ5.out.found hr hzD)
    have hq05 : 0 < q5 := by have := hqs5.out; omega
    clear hr hz hzD hz1 hzh hD8 hQ8 hqr8 hqr5 hown5
    go_wp2_with (
     at_builtin
     refine app_to_queue (w := w8) (x := r) (base := w1.heap.size) row3 rfl _ _ rfl g5 o5 q5 c5 (hd :: t5) rfl hqrH.out 1 rfl (by omega) hs8 ?_
     intro g9 o9 c9 w9 hqr9 hk9 hg9 hl9
     have hJ9 := hide (hQ8H.out.join hD8H.out (s := r) (by have := hqs5.out; rw [← this]; exact hqr9) hk9 hg9)
     clear hqr9 hk9 hg9 hl9)
    refine ⟨⟨far5.set r ((kd : Int) + 1), t5 ++ [r], q5 + 1, c9, j + 1, _, rfl, ?_, ?_, by go_num, by omega, hJ9.out.2, hJ9.out.1, hJ6⟩, by simp [intOf]; omega⟩
    ·have := hJ6.out.bfs.size
     have := hqs5.out
     have := hnH.out
     simp only [List.length_cons, List.length_append, List.length_nil] at *
     omega
    ·show _ = _
     rw [hqs5.out]; simp
   ·have hzk : z = (kz : Int) := by omega
    subst hzk
    have hJ6 := hide (hJ5.out.skip hr (by rw [hzD]; omega))
    clear hr hz hzD hz1 hqr5 hown5
    go_wp2_with fail
    exact ⟨⟨far5, t5, q5, c5, j + 1, _, rfl, hq5, hqs5, by go_num, by omega, hD5, hQ5, hJ6⟩, by simp [intOf]; omega⟩
  ·obtain rfl : j = m := by omega
   have hB6 := hide (hJ5.out.done (by rw [← hmH.out]; exact Nat.le_refl _))
   have hQ6 := hide hQ5.out.tail
   have hsz6 := hide hJ5.out.size
   obtain ⟨q6, rfl⟩ : ∃ q6, q5 = q6 + 1 := ⟨q5 - 1, by have := hqs5.out; omega⟩
   have hq6 : Hid (q6 = t5.length) := by have := hqs5.out; show _ = _; omega
   have hqc : q6 + 1 ≤ c5 := by have := hqr5.2.2.1; have := hqs5.out; simp at *; omega
   clear hqr5
   have hqa := hq6.out
   have hB6o := hB6.out
   have hQ6o := hQ6.out
   have hsz6o := hsz6.out
   have hqcH := hide (And.intro hqa (And.intro hB6o (And.intro hQ6o hsz6o)))
   clear hqa hB6o hQ6o hsz6o
   go_wp2_with fail
   exact hQQH.out _ _ _ _ _ _ _ _ _ _ _ _ _ _ _ _ _ _ _ _ _ _ _ _ _ _ far5 t5 q6 c5 _ _ hq6.out hqc (by omega) hD5.out hQ6.out hB6.out hsz6.out
theorem dis_q {w1 w : World} {a : NF} {s gf gb q1 c : Nat} {A : Option Addr} {far : List Int} {u : Nat → Value} {qs : List Nat} (hnE : s = a.n) (hn : s ≤ 200000) (hE : (a.psS a.n).length ≤ 3000000) (hq1 : q1 ≤ 200000) (hqE : q1 = qs.length)
  (hD0 : DisM w1 w s gf gb far u (bkOf (a.psS a.n))) (hQ0 : QueQ w1 w s gf u A c qs) (hB0 : a.Bfs far qs)
  {u0 u1 u2 u6 u7 u8 u9 u10 u11 u12 u13 u14 u15 u16 u17 u18 u19 u20 u21 u22 u23 u24 u25 u26 u27 u28 u29 u30 u31 u32 u33 u34 u35 u36 u37 u38 u39 u40 u41 u42 u43 u44 u45 u46 u47 u48 u49 u50 u51 u52 u53 u54 u55 u56 u57 u58 u59 u60 u61 u62 u63 u64 u65 u66 u67 u68 u69 u70 u71 u72 u73 u74 u75 u76 u77 u78 u79 u80 u81 u82 u83 u84 u85 u86 u87 u88 u89 u90 u91 u92 u93 u94 u95 u96 u97 u98 u99 u100 u101 u102 u103 u104 u105 u106 : Value} {Q : Exit → Act → World → Prop}
  (hQQ : ∀ (x5 x13 x70 x71 x72 x73 x74 x75 x76 x77 x78 x79 x80 x81 x82 x83 x84 x85 x86 x87 x88 x89 x90 x91 x92 x93 x94 x95 x96 x97 x98 x99 x100 x101 x102 x103 x104 x105 : Value) (w' : World) (far : List Int), Below w1.heap.size w1 w' → Blk w' gf 3 (farV far) → far.length = s → a.Far far → Q (.exit 6) ⟨List.toArray (u0 :: u1 :: u2 :: (.slice (some ⟨gf, 0, none⟩) s s) :: (.slice (some ⟨gb, 0, none⟩) s s) :: x5 :: u6 :: u7 :: u8 :: u9 :: u10 :: u11 :: u12 :: x13 :: u14 :: u15 :: u16 :: u17 :: u18 :: u19 :: u20 :: u21 :: u22 :: u23 :: u24 :: u25 :: u26 :: u27 :: u28 :: u29 ::
   u30 :: u31 :: u32 :: u33 :: u34 :: u35 :: u36 :: u37 :: u38 :: u39 :: u40 :: u41 :: u42 :: u43 :: u44 :: u45 :: u46 :: u47 :: u48 :: u49 :: u50 :: u51 :: u52 :: u53 :: u54 :: u55 :: u56 :: u57 :: u58 :: u59 :: u60 :: u61 :: u62 :: u63 :: u64 :: u65 :: u66 ::
   u67 :: u68 :: u69 :: x70 :: x71 :: x72 :: x73 :: x74 :: x75 :: x76 :: x77 :: x78 :: x79 :: x80 :: x81 :: x82 :: x83 :: x84 :: x85 :: x86 :: x87 :: x88 :: x89 :: x90 :: x91 :: x92 :: x93 :: x94 :: x95 :: x96 :: x97 :: x98 :: x99 :: x100 :: x101 :: x102 :: x103 ::
   x104 :: x105 :: u106 :: []), []⟩ w') :
  (Code.loop (loopBody Tryz.f71 3)).wp Tryz.prog Q ⟨List.toArray (u0 :: u1 :: u2 :: (.slice (some ⟨gf, 0, none⟩) s s) :: (.slice (some ⟨gb, 0, none⟩) s s) :: (.slice A q1 c) :: u6 :: u7 :: u8 :: u9 :: u10 :: u11 :: u12 :: u13 :: u14 :: u15 :: u16 :: u17 :: u18 :: u19 :: u20 :: u21 :: u22 :: u23 :: u24 :: u25 :: u26 :: u27 ::
   u28 :: u29 :: u30 :: u31 :: u32 :: u33 :: u34 :: u35 :: u36 :: u37 :: u38 :: u39 :: u40 :: u41 :: u42 :: u43 :: u44 :: u45 :: u46 :: u47 :: u48 :: u49 :: u50 :: u51 :: u52 :: u53 :: u54 :: u55 :: u56 :: u57 :: u58 :: u59 :: u60 :: u61 :: u62 :: u63 :: u64 ::
   u65 :: u66 :: u67 :: u68 :: u69 :: u70 :: u71 :: u72 :: u73 :: u74 :: u75 :: u76 :: u77 :: u78 :: u79 :: u80 :: u81 :: u82 :: u83 :: u84 :: u85 :: u86 :: u87 :: u88 :: u89 :: u90 :: u91 :: u92 :: u93 :: u94 :: u95 :: u96 :: u97 :: u98 :: u99 :: u100 :: u101 ::
   u102 :: u103 :: u104 :: u105 :: u106 :: []), []⟩ w := by
 conv => arg 2; arg 1; whnf
 have hDu := hide (fun y (hy : y < s) => slice_of_own (hD0.own y hy))
 have hnH := hide hnE
 have hEH := hide hE
 have hqH := hide hqE
 have hD := hide hD0
 have hC0 := hide hQ0
 have hBf := hide hB0
 have hQQH := hide hQQ
 clear hnE hE hqE hD0 hQ0 hB0 hQQ
 go_loopg [5] (q1 + und far) (fun k qq wz => ∃ (far : List Int) (qs : List Nat) (q1 c : Nat) (A : Option Addr), qq = .slice A q1 c ∧ q1 ≤ 200000 ∧ Hid (q1 = qs.length) ∧ Hid (DisM w1 wz s gf gb far u (bkOf (a.psS a.n))) ∧ Hid (QueQ w1 wz s gf u A c qs) ∧ Hid (a.Bfs far qs) ∧ Hid (k = q1 + und far))
 case atStart => exact ⟨far, qs, q1, c, A, rfl, hq1, hqH, hD, hC0, hBf, rfl⟩
 case round =>
  obtain ⟨far, qs, q1, c, A, rfl, hq1, hqs, hD4, hQ4, hB4, hgk⟩ := hrel
  rcases qs with _ | ⟨hd, t⟩
  ·have hz : q1 = 0 := hqs.out
   subst hz
   go_wp2_with fail
   exact hQQH.out _ _ _ _ _ _ _ _ _ _ _ _ _ _ _ _ _ _ _ _ _ _ _ _ _ _ _ _ _ _ _ _ _ _ _ _ _ _ _ far hD4.out.below hD4.out.farB (by rw [hB4.out.len, hnH.out]) hB4.out.isFar
  ·obtain ⟨g, off, rfl, hqr, hsep, hgf2⟩ := hQ4.out.row (by simp)
   have hcq : wr.cell? ⟨g, off, none⟩ = some (.int .i64 (hd : Int)) := hqr.cell (j := 0) rfl
   obtain ⟨hhd, hhf⟩ := hB4.out.q hd List.mem_cons_self
   have hhs : hd < s := by rw [hnH.out]; exact hhd
   obtain ⟨kd, hkd, hdist⟩ : ∃ kd : Nat, far.getD hd (-1) = (kd : Int) ∧ a.Dist hd kd := by
    rcases hB4.out.ge hd hhd with h | h
    ·exact absurd h hhf
    ·exact h
   have hkd8 : kd ≤ 200000 := by have := hdist.lt hhd; have := hnH.out; omega
   obtain ⟨Au, cu, hu⟩ := hDu.out hd hhs
   have hq1s : q1 = t.length + 1 := hqs.out
   have hcu : wr.cell? ⟨gb, hd, none⟩ = some (.slice Au (bkOf (a.psS a.n) hd).length cu) := by rw [hD4.out.top.cell, rangeC_get _ hhs, hu]
   obtain ⟨m, hm⟩ : ∃ m, m = (bkOf (a.psS a.n) hd).length := ⟨_, rfl⟩
   have hmH := hide hm
   rw [← hm] at hcu hu
   have huH := hide hu
   have hm9 : m ≤ 3000000 := by rw [hm]; exact Nat.le_trans (bkOf_len _ _) hEH.out
   have hJ0 := hide (show a.BfsJ far hd t kd (t.length + und far) 0 from ⟨hB4.out, hkd, fun q hq => by simp at hq, rfl⟩)
   have hgk2 : Hid (gk = t.length + und far + 1) := by have := hgk.out; show _ = _; omega
   have hq1H := hide hq1s
   obtain ⟨m0, hm0⟩ : ∃ m0, m0 = t.length + und far := ⟨_, rfl⟩
   rw [← hm0] at hJ0 hgk2
   have hq01 : 0 < q1 := by omega
   clear hm hu hkd hdist hhf hqr hm0 hq1s
   go_wp2_with fail
   refine dis_k hnH.out hn hhs hkd8 hmH.out hm9 huH.out hq1 hq1H.out hD4.out hQ4.out hJ0.out ?_
   iterate 25 (intro _)
   intro w' far5 t5 q6 c5 g5 o5 hq6 hqc hq68 hD5 hQ6 hB6 hsz6
   have hq6H := hide hq6
   have hD5H := hide hD5
   have hQ6H := hide hQ6
   have hB6H := hide hB6
   have hsz6H := hide hsz6
   clear hq6 hD5 hQ6 hB6 hsz6
   by_cases hc1 : c5 = 1
   ·subst hc1
    have hnil : t5 = [] := List.length_eq_zero_iff.1 (by have := hq6H.out; omega)
    obtain rfl : q6 = 0 := by omega
    go_wp2_with fail
    go_roundg (t5.length + und far5)
    case measure => have := hgk2.out; have := hsz6H.out; omega
    case rel => exact ⟨far5, t5, 0, 0, _, rfl, hq68, hq6H, hD5H, ⟨fun h => absurd hnil h⟩, hB6H, by show _ = _; rw [hq6H.out]⟩
   ·go_wp2_with fail
    go_roundg (t5.length + und far5)
    case measure => have := hgk2.out; have := hsz6H.out; omega
    case rel => exact ⟨far5, t5, q6, c5 - 1, _, rfl, hq68, hq6H, hD5H, hQ6H, hB6H, by show _ = _; rw [hq6H.out]⟩
theorem distances_any {w : World} {v : Value} {a : NF} (h : IsNF w w.heap.size v a) (hok : a.OK) (hn : a.n ≤ 200000) (hL : a.L ≤ 8) (hE : (a.psS a.n).length ≤ 3000000) :
  Calls Tryz.prog 71 #[v] w (Ret fun r w' => Below w.heap.size w w' ∧ ∃ far A c, r = .slice A far.length c ∧ a.Far far ∧ Sl w' w'.heap.size 1 encI A far) := by
 obtain ⟨A1, c1, A2, c2, A3, c3, rfl, h1, h2, h3, h4⟩ := h
 have haccl := hok.acc
 have hnx : a.nx.length = a.n := rfl
 obtain ⟨n, hne⟩ : ∃ n, n = a.n := ⟨_, rfl⟩
 obtain ⟨L, hLe⟩ : ∃ L, L = a.L := ⟨_, rfl⟩
 have hnH := hide hne
 have hLH := hide hLe
 rw [hnx, haccl]
 rw [← hne] at hn ⊢
 rw [← hLe] at hL ⊢
 obtain ⟨w1, hw1, hb1, hB1, hk1⟩ := box_blk w #[.int .i64 (L : Int), .slice A1 n c1, .slice A2 a.start.length c2, .slice A3 n c3] 56
 obtain ⟨gf, w2, hmk2, hbl2, hb2, hgf⟩ := mk_ints w1 n (by omega)
 obtain ⟨gb, w3, hmk3, hbl3, hb3, hgb⟩ := mk_rows w2 n (by omega)
 have hs1 := hb1.size
 have hs2 := hb2.size
 have hb13 := hb2.trans (hb3.mono hs2)
 have hD0 := hide (show DisM w1 w3 n gf gb (a.far0 0) (fun _ => .slice none 0 0) (bkOf (a.ps 0 0 0)) from by
  have e0 : a.ps 0 0 0 = [] := by simp [NF.ps, NF.psS, NF.psR]
  have e1 : a.far0 0 = List.replicate n 0 := by
   apply List.ext_getElem?
   intro q
   rcases Nat.lt_or_ge q a.n with hq | hq
   ·have e3 : q < n := by omega
    rw [NF.far0_at hq, List.getElem?_replicate]
    simp [e3]
   ·rw [List.getElem?_eq_none (by rw [NF.far0_len]; exact hq), List.getElem?_eq_none (by simp; omega)]
  rw [e0, e1]
  refine ⟨hb13, ?_, ?_, fun y _ => own_nil, fun y _ y' _ g hg => by simp [Value.ownBlock] at hg, fun y _ hg => by simp [Value.ownBlock] at hg, ⟨hgf, by omega⟩⟩
  ·rw [← farV_rep]; exact hbl2.below hb3
  ·rw [← rangeC_rep]; exact hbl3)
 have hQ0 := hide (show QueO w1 w3 n gf (fun _ => .slice none 0 0) (.slice none 0 0) (a.que0 0) from ⟨own_nil, fun y _ g hg => by simp [Value.ownBlock] at hg, fun hg => by simp [Value.ownBlock] at hg⟩)
 have hc2 := (hB1.below hb2).cell
 have hc1 := hB1.cell
 have hc3 := (hB1.below hb13).cell
 have hB1H := hide hB1
 have hb1H := hide hb1
 have h1H := hide h1
 have h3H := hide h3
 have hokH := hide hok
 have hEH := hide hE
 have hl1 := hB1.lt
 have hacclH := hide haccl
 clear h1 h2 h3 h4 hne hLe hok hE hk1 hbl2 hbl3 hb2 hb3 hb13 hB1 haccl hnx hb1
 go_enter Tryz.func71, Tryz.ntmps71
 go_wp2_with fail
 go_loopw [5, 25] (fun qq ii wr => ∃ (s : Nat) (u : Nat → Value), ii = .int .i64 (s : Int) ∧ s ≤ n ∧ Hid (DisM w1 wr n gf gb (a.far0 s) u (bkOf (a.ps s 0 0))) ∧ Hid (QueO w1 wr n gf u qq (a.que0 s))) (fun _ ii _ => n - (intOf ii).toNat)
 case atStart => exact ⟨0, _, rfl, Nat.zero_le _, hD0, hQ0⟩
 case round =>
  obtain ⟨s, u, rfl, hs, hD, hQ⟩ := hrel
  have hB1r := hB1H.out.at hl1 hD.out.below
  have hcr := hB1r.cell
  have hbr := hide (hb1H.out.trans (hD.out.below.mono hs1))
  obtain ⟨Aq, cq, rfl⟩ := slice_of_own hQ.out.own
  by_cases hlt : s < n
  ·have hsn : s < a.n := by rw [← hnH.out]; exact hlt
   obtain ⟨bt, ot, Ar, cr, rfl, hbt, hct, hrow⟩ := NF.row_at h1H.out hokH.out hsn
   have hctr := (hbr.out.cell (p := ⟨bt, ot + s, none⟩) hbt).trans hct
   rw [← hLH.out] at hctr
   have hrowH := hide hrow
   have hcf : wr.cell? ⟨gf, s, none⟩ = some (.int .i64 0) := by
    rw [hD.out.farB.cell, farV_get (NF.far0_at hsn), if_neg (by omega)]
   have hff := hD.out.farB.frozen s
   have hlf := hD.out.farB.lt
   obtain ⟨w7, hw7⟩ : ∃ w7, wr.setCell ⟨gf, s, none⟩ (.int .i64 (-1)) = w7 := ⟨_, rfl⟩
   have hD7 := hD.out.setF s (-1)
   have hQ7 := hQ.out.setF (gf := gf) s (.int .i64 (-1))
   rw [hw7] at hD7 hQ7
   have hc7 := (hB1H.out.at hl1 hD7.below).cell
   have hD7H := hide hD7
   have hQ7H := hide hQ7
   clear hD7 hQ7 hrow hct hB1r
   go_wp2_with fail
   refine dis_x (vq := .slice Aq (a.que0 s).length cq) (qs := a.que0 s) hokH.out hnH.out hLH.out hL hlt hrowH.out hb1H.out hEH.out hD7H.out hQ7H.out ?_
   iterate 24 (intro _)
   intro wz uA hD2o hQ2o
   have hD2 := hide hD2o
   have hQ2 := hide hQ2o
   have hb2r := hide (hb1H.out.trans (hD2o.below.mono hs1))
   clear hD2o hQ2o
   obtain ⟨b, hbb⟩ := get_lt (l := a.acc) (i := s) (by rw [hacclH.out]; exact hsn)
   obtain ⟨ba, oa, rfl, hba, hca⟩ := sl_boolat h3H.out hbb
   have hcar := (hb2r.out.cell (p := ⟨ba, oa + s, none⟩) hba).trans hca
   have hcbr := (hB1H.out.at hl1 hD2.out.below).cell
   have hacb : Hid (a.acc.getD s false = b) := getD_some hbb
   have hff := hD2.out.farB.frozen s
   have hlf := hD2.out.farB.lt
   have hcf : wz.cell? ⟨gf, s, none⟩ = some (.int .i64 (-1)) := by
    rw [hD2.out.farB.cell]
    exact farV_get (by rw [List.getElem?_set_self (by rw [NF.far0_len]; exact hsn)])
   have hf0 := hide (NF.far0_step hsn)
   have hq0 := hide (a.que0_step (s := s))
   have hql : (a.que0 s).length ≤ 200000 := by
    unfold NF.que0
    have := List.length_filter_le (fun q => a.acc.getD q false) (List.range s)
    rw [List.length_range] at this
    omega
   obtain ⟨ql, hqle⟩ : ∃ ql, ql = (a.que0 s).length := ⟨_, rfl⟩
   have hqH := hide hqle
   rw [← hqle] at hql hQ2 ⊢
   clear hbb hca hqle
   cases b
   ·go_wp2_with fail
    refine ⟨⟨s + 1, uA, by go_num, by omega, ?_, ?_⟩, by simp [intOf]; omega⟩
    ·have := hD2.out
     have h0 := hf0.out
     rw [hacb.out] at h0
     rw [show (a.far0 s).set s (-1) = a.far0 (s + 1) from h0] at this
     exact this
    ·have h0 := hq0.out
     rw [hacb.out] at h0
     show QueO _ _ _ _ _ _ _
     rw [show a.que0 (s + 1) = a.que0 s from h0]
     exact hQ2.out
   ·obtain ⟨w8, hw8⟩ : ∃ w8, wz.setCell ⟨gf, s, none⟩ (.int .i64 0) = w8 := ⟨_, rfl⟩
    have hD8 := hD2.out.setF s 0
    have hQ8 := hQ2.out.setF (gf := gf) s (.int .i64 0)
    rw [hw8] at hD8 hQ8
    rw [List.set_set] at hD8
    have hsz8 := hD8.below.size
    have hD8H := hide hD8
    have hQ8H := hide hQ8
    have hown8 := hide (show w8.ownsRow w1.heap.size 3 1 (.slice Aq ql cq) ql (rowV (a.que0 s)) from by have := hQ8.own; rw [← hqH.out] at this; exact this)
    clear hD8 hQ8
    go_wp2_with (
     at_builtin
     refine wpList_app_new (w := w8) row3 rfl _ _ rfl w1.heap.size (.slice Aq ql cq) ql _ rfl hown8.out [.int .i64 (s : Int)] 1 rfl rfl (by simp [Value.oneCell']) (by omega) hsz8 ?_
     intro g cap w9 hown9 hk9 hmv9 hg9
     have hJ := hide (hQ8H.out.join (s := s) hD8H.out hk9 (by rw [← hqH.out]; exact hown9) hmv9)
     clear hown9 hk9 hmv9)
    refine ⟨⟨s + 1, uA, by go_num, by omega, ?_, ?_⟩, by simp [intOf]; omega⟩
    ·have := hJ.out.2
     have h0 := hf0.out
     rw [hacb.out] at h0
     rw [show (a.far0 s).set s 0 = a.far0 (s + 1) from h0] at this
     exact this
    ·have h0 := hq0.out
     rw [hacb.out] at h0
     show QueO _ _ _ _ _ _ _
     rw [show a.que0 (s + 1) = a.que0 s ++ [s] from h0]
     exact hJ.out.1
  ·obtain rfl : s = n := by omega
   have hps0 : a.ps s 0 0 = a.psS a.n := by rw [← hnH.out]; simp [NF.ps, NF.psR]
   rw [hps0] at hD
   have hC0 := hide hQ.out.cut
   have hB0 := hide (show a.Bfs (a.far0 s) (a.que0 s) from by rw [hnH.out]; exact a.bfs0)
   obtain ⟨ql, hqle⟩ : ∃ ql, ql = (a.que0 s).length := ⟨_, rfl⟩
   have hqH := hide hqle
   rw [← hqle]
   have hDu := hide (fun y (hy : y < s) => slice_of_own (hD.out.own y hy))
   clear hqle hps0 hQ
   go_wp2_with fail
   refine dis_q hnH.out hn hEH.out (by have := hB0.out.size; have := hqH.out; have := hnH.out; omega) hqH.out hD.out hC0.out hB0.out ?_
   iterate 38 (intro _)
   intro w' far hbw hfB hfl hF
   have hfBH := hide hfB
   have hflH := hide hfl
   have hFH := hide hF
   have hbH := hide (hb1H.out.trans (hbw.mono hs1))
   clear hfB hfl hF hbw
   go_wp2_with fail
   go_ret
   refine ⟨hbH.out, far, some ⟨gf, 0, none⟩, s, by rw [hflH.out]; rfl, hFH.out, by have := hflH.out; omega, fun hne => ⟨gf, 0, rfl, hfBH.out.lt, fun k d hd j hj => ?_⟩⟩
   have : j = 0 := by omega
   subst this
   rw [hfBH.out.cell]
   simpa [encI] using farV_get hd
end Go.Proofs.YtakpmdmjbgipiaaGreatDoor
