/-
  Part VE of a proof.
-/
import Derived.Test.YtpmceapjnnkhjaaDoorPA
import Derived.Test.YtpmceapjnnkhjaaDoorVB
import Derived.Test.YtpmceapjnnkhjaaDoorVA
set_option maxHeartbeats 16000000
set_option maxRecDepth 100000
set_option linter.unusedVariables false
set_option linter.unusedSimpArgs false
namespace Go.Proofs.YtpmceapjnnkhjaaDoor
open Go.RowKit
set_option maxHeartbeats 16000000
set_option maxRecDepth 100000
def MkAt (wr : World) (base : Nat) (u : Value) (m : List Bool) : Prop := ∃ g, u = .slice (some ⟨g, 0, none⟩) m.length m.length ∧ base ≤ g ∧ Blk wr g 4 (m.map Value.bool).toArray
theorem MkAt.kept {wr w' : World} {base : Nat} {u : Value} {m : List Bool} {X : Nat → Prop} (h : MkAt wr base u m) (hk : Kept wr w' X) (hX : ∀ g cs, X g → ¬ Blk wr g 4 cs) : MkAt w' base u m := by
 obtain ⟨g, h1, h2, h3⟩ := h
 exact ⟨g, h1, h2, h3.kept hk fun e => hX _ _ e h3⟩
structure RwM (w0 wr : World) (g2 : Nat) (cs : Array Value) (vW vS vL vM : Value) (W Lg : List (List Nat)) (Sg Mg : List (List Bool)) (us ss ls ms : List Value) : Prop where
 below : Below w0.heap.size w0 wr
 b2 : Blk wr g2 25 cs
 w : wr.ownsRow w0.heap.size 22 1 vW W.length us
 wR : RowsI wr w0.heap.size (fun _ => True) us (W.map natL)
 s : wr.ownsRow w0.heap.size 70 1 vS Sg.length ss
 sR : F2 (fun u m => MkAt wr w0.heap.size u m) ss Sg
 l : wr.ownsRow w0.heap.size 22 1 vL Lg.length ls
 lR : RowsI wr w0.heap.size (fun _ => True) ls (Lg.map natL)
 m : wr.ownsRow w0.heap.size 70 1 vM Mg.length ms
 mR : F2 (fun u m => MkAt wr w0.heap.size u m) ms Mg
 sepL : ∀ g, vW.ownBlock = some g → vL.ownBlock ≠ some g
 sepM : ∀ g, vS.ownBlock = some g → vM.ownBlock ≠ some g
section
variable {w0 wr w' : World} {g2 : Nat} {cs : Array Value} {vW vS vL vM : Value} {W Lg : List (List Nat)} {Sg Mg : List (List Bool)} {us ss ls ms : List Value}
theorem RwM.keep (h : RwM w0 wr g2 cs vW vS vL vM W Lg Sg Mg us ss ls ms) (hb : Below wr.heap.size wr w') : RwM w0 w' g2 cs vW vS vL vM W Lg Sg Mg us ss ls ms :=
 have hk := Kept.of_below hb (fun _ => False)
 ⟨h.below.trans (hb.mono h.below.size), h.b2.below hb, own_below h.w hb, h.wR.keep hk (fun _ _ _ e => e.elim) (fun _ _ x => x) (Nat.le_refl _), own_below h.s hb, h.sR.imp fun _ _ hs => hs.kept hk fun _ _ e => e.elim,
  own_below h.l hb, h.lR.keep hk (fun _ _ _ e => e.elim) (fun _ _ x => x) (Nat.le_refl _), own_below h.m hb, h.mR.imp fun _ _ hs => hs.kept hk fun _ _ e => e.elim, h.sepL, h.sepM⟩
theorem RwM.addL {d : List Nat} {v vL' : Value} (h : RwM w0 wr g2 cs vW vS vL vM W Lg Sg Mg us ss ls ms) (hv : wr.ownsRow w0.heap.size 3 1 v d.length ((natL d).map (Value.int .i64))) (hk : Kept wr w' (fun k => vL.ownBlock = some k)) (ho : w'.ownsRow w0.heap.size 22 1 vL' (Lg.length + 1) (ls ++ [v])) (hmv : Moved wr vL vL') :
  RwM w0 w' g2 cs vW vS vL' vM W (Lg ++ [d]) Sg Mg us ss (ls ++ [v]) ms := by
 have hty : ∀ {e : TypeId}, e ≠ 22 → ∀ g cs, vL.ownBlock = some g → ¬ Blk wr g e cs := fun h1 g cs e1 hB => own_blk_ne h.l hB (fun hh => h1 hh.symm) e1
 refine ⟨h.below.trans (hk.below h.below.size fun b hb e => by have := own_base h.l e; omega), h.b2.kept hk fun x => hty (by decide) _ _ x h.b2, hk.ownsRow h.w fun g hg e => h.sepL g hg e, h.wR.keep hk (fun g cs _ e => hty (by decide) g cs e) (fun _ _ x => x) (Nat.le_refl _),
  own_ty hk h.s (hty (by decide)), h.sR.imp fun _ _ hs => hs.kept hk (hty (by decide)), by rw [List.length_append]; exact ho, ?_, own_ty hk h.m (hty (by decide)), h.mR.imp fun _ _ hs => hs.kept hk (hty (by decide)), fun g hg => moved_ne hmv (own_lt h.w hg) (h.sepL g hg), h.sepM⟩
 rw [List.map_append]
 refine RowsI.snoc (h.lR.keep hk (fun g cs _ e => hty (by decide) g cs e) (fun _ _ x => x) (Nat.le_refl _)) ?_ (fun _ _ => trivial)
 have el : (natL d).length = d.length := by simp [natL]
 rw [el]
 exact own_ty hk hv (hty (by decide))
theorem RwM.addM {mm : List Bool} {u vM' : Value} (h : RwM w0 wr g2 cs vW vS vL vM W Lg Sg Mg us ss ls ms) (hu : MkAt wr w0.heap.size u mm) (hk : Kept wr w' (fun k => vM.ownBlock = some k)) (ho : w'.ownsRow w0.heap.size 70 1 vM' (Mg.length + 1) (ms ++ [u])) (hmv : Moved wr vM vM') :
  RwM w0 w' g2 cs vW vS vL vM' W Lg Sg (Mg ++ [mm]) us ss ls (ms ++ [u]) := by
 have hty : ∀ {e : TypeId}, e ≠ 70 → ∀ g cs, vM.ownBlock = some g → ¬ Blk wr g e cs := fun h1 g cs e1 hB => own_blk_ne h.m hB (fun hh => h1 hh.symm) e1
 exact ⟨h.below.trans (hk.below h.below.size fun b hb e => by have := own_base h.m e; omega), h.b2.kept hk fun x => hty (by decide) _ _ x h.b2, own_ty hk h.w (hty (by decide)), h.wR.keep hk (fun g cs _ e => hty (by decide) g cs e) (fun _ _ x => x) (Nat.le_refl _),
  hk.ownsRow h.s fun g hg e => h.sepM g hg e, h.sR.imp fun _ _ hs => hs.kept hk (hty (by decide)), own_ty hk h.l (hty (by decide)), h.lR.keep hk (fun g cs _ e => hty (by decide) g cs e) (fun _ _ x => x) (Nat.le_refl _), by rw [List.length_append]; exact ho,
  F2.snoc (h.mR.imp fun _ _ hs => hs.kept hk (hty (by decide))) (hu.kept hk (hty (by decide))), h.sepL, fun g hg => moved_ne hmv (own_lt h.s hg) (h.sepM g hg)⟩
theorem RwM.turn (h : RwM w0 wr g2 cs vW vS vL vM W Lg Sg Mg us ss ls ms) : RwM w0 wr g2 cs vL vM sn0 sn0 Lg [] Mg [] ls ms [] [] :=
 ⟨h.below, h.b2, h.l, h.lR, h.m, h.mR, own_nil, RowsI.nil, own_nil, F2.nil, fun g hg => by simp [sn0, Value.ownBlock], fun g hg => by simp [sn0, Value.ownBlock]⟩
theorem RwM.set_ (h : RwM w0 wr g2 cs vW vS vL vM W Lg Sg Mg us ss ls ms) {k : Nat} {m : List Bool} (hk : Sg[k]? = some m) : ∃ gS c gm, vS = .slice (some ⟨gS, 0, none⟩) Sg.length c ∧ wr.cell? ⟨gS, k, none⟩ = some (.slice (some ⟨gm, 0, none⟩) m.length m.length) ∧ Marks wr wr.heap.size (.slice (some ⟨gm, 0, none⟩) m.length m.length) m := by
 obtain ⟨u, hu, g, e, h2, h3⟩ := F2.at h.sR hk
 obtain ⟨gS, c, e1, e2⟩ := own_get h.s hu
 exact ⟨gS, c, g, e1, by rw [e2, e], g, h3.lt, rfl, h3⟩
theorem RwM.word (h : RwM w0 wr g2 cs vW vS vL vM W Lg Sg Mg us ss ls ms) {k : Nat} {p : List Nat} (hk : W[k]? = some p) (hp : p.length ≤ 4000000) : ∃ gW c A c', vW = .slice (some ⟨gW, 0, none⟩) W.length c ∧ wr.cell? ⟨gW, k, none⟩ = some (.slice A p.length c') ∧ Sl wr wr.heap.size 1 encI A (natL p) := by
 obtain ⟨u, hu, hr, -⟩ := F2.at h.wR (map_get (f := natL) hk)
 obtain ⟨gW, c, e1, e2⟩ := own_get h.w hu
 obtain ⟨A, c', e3, hs⟩ := own_slI hr rfl (Nat.le_refl _) (by simp [natL]; omega)
 have el : (natL p).length = p.length := by simp [natL]
 rw [el] at e3
 exact ⟨gW, c, A, c', e1, by rw [e2, e3], hs⟩
end
def lvX (a : NF) (m : List Bool) (x : Nat) : List Nat := (List.range x).filter fun y => someM (a.after m y)
theorem lvX_zero (a : NF) (m : List Bool) : lvX a m 0 = [] := rfl
theorem lvX_yes {a : NF} {m : List Bool} {x : Nat} (h : someM (a.after m x) = true) : lvX a m (x + 1) = lvX a m x ++ [x] := by
 unfold lvX
 rw [List.range_succ, List.filter_append]
 simp [h]
theorem lvX_no {a : NF} {m : List Bool} {x : Nat} (h : someM (a.after m x) = false) : lvX a m (x + 1) = lvX a m x := by
 unfold lvX
 rw [List.range_succ, List.filter_append]
 simp [h]
theorem lvX_len (a : NF) (m : List Bool) (x : Nat) : (lvX a m x).length ≤ x := by
 unfold lvX
 refine Nat.le_trans (List.length_filter_le _ _) ?_
 simp
theorem same_zero (m : List Bool) : decide (m = List.replicate m.length false) = !someM m := by
 rcases h : someM m with _ | _
 ·have : m = List.replicate m.length false := by
   rw [List.eq_replicate_iff]
   refine ⟨rfl, fun b hb => ?_⟩
   unfold someM at h
   rw [List.any_eq_false] at h
   have := h b hb
   simpa using this
  simpa using this
 ·have : m ≠ List.replicate m.length false := fun e => by
   rw [e] at h
   unfold someM at h
   rw [List.any_eq_true] at h
   obtain ⟨b, hb, h1⟩ := h
   have := (List.mem_replicate.1 hb).2
   subst this
   cases h1
  simpa using this
theorem rw_x {w0 w : World} {g2 k n S pl cW cS l1 c1 l2 c2 l3 c3 : Nat} {A1 A2 A3 AW AS : Option Addr} {a : WA} {vL vM : Value} {W Lg : List (List Nat)} {Sg Mg : List (List Bool)} {us ss ls ms : List Value} {p : List Nat} {mi : List Bool}
    (hM : RwM w0 w g2 #[.int .i64 (a.L : Int), .int .i64 (S : Int), .slice A1 l1 c1, .slice A2 l2 c2, .slice A3 l3 c3] (.slice AW n cW) (.slice AS n cS) vL vM W Lg Sg Mg us ss ls ms) (hWA : IsWA w0 w0.heap.size (.agg #[.int .i64 (a.L : Int), .int .i64 (S : Int), .slice A1 l1 c1, .slice A2 l2 c2, .slice A3 l3 c3]) a) (hin : a.In) (hS : 0 ≤ a.states ∧ a.states ≤ 200000) (hSe : a.n = S) (hL : a.L ≤ 8)
    (hp : W[k]? = some p) (hq : Sg[k]? = some mi) (hml : mi.length = a.n) (hpl : pl = p.length) (hp9 : pl ≤ 100) (hlen : Mg.length = Lg.length) (hlg : Lg.length ≤ 1000000) (hn : n = W.length) (hn' : n = Sg.length)
    {u0 u1 u3 u4 u5 u8 u13 u14 u15 u16 u17 u18 u19 u20 u21 u22 u23 u24 u25 u26 u27 u28 u29 u30 u31 u32 u33 u34 u35 u36 u37 u38 u39 u40 u41 u42 u43 u44 u45 u46 u47 u48 u49 u50 u51 u52 u53 u54 u55 u56 u57 u58 u59 u60 u61 u62 u63 u64 u65 u66 u67 u68 u69 u70 u71 u72 u73 u74 u75 u76 u77 u78 u79 u80 u81 u82 u83 u84 u85 u86 u87 u88 u89 u90 u91 u92 u93 u94 u95 u96 u97 u98 u99 : Value}
    {Q : Exit → Act → World → Prop} (hN : Reg.NoQ Q)
    (hQ : ∀ (x12 x13 x43 x44 x45 x46 x47 x48 x49 x50 x51 x52 x53 x54 x55 x56 x57 x58 x59 x60 x61 x62 x63 x64 x65 x66 x67 x68 x69 x70 x71 x72 x73 x74 x75 x76 : Value) (w' : World) (vL' vM' : Value) (ls' ms' : List Value), RwM w0 w' g2 #[.int .i64 (a.L : Int), .int .i64 (S : Int), .slice A1 l1 c1, .slice A2 l2 c2, .slice A3 l3 c3] (.slice AW n cW) (.slice AS n cS) vL' vM' W (Lg ++ (lvX a.nf mi a.L).map fun y => p ++ [y]) Sg (Mg ++ (lvX a.nf mi a.L).map fun y => a.nf.after mi y) us ss ls' ms' →
      Q (.exit 4) ⟨List.toArray (u0 :: u1 :: (.pointer (some ⟨g2, 0, none⟩)) :: u3 :: u4 :: u5 :: (.slice AW n cW) :: (.slice AS n cS) :: u8 :: vL' :: vM' :: (.int .i64 k) :: x12 :: x13 :: u14 :: u15 :: u16 :: u17 :: u18 :: u19 :: u20 :: u21 :: u22 :: u23 :: u24 :: u25 :: u26 :: u27 :: u28 ::
      u29 :: u30 :: u31 :: u32 :: u33 :: u34 :: u35 :: u36 :: u37 :: u38 :: u39 :: u40 :: u41 :: u42 :: x43 :: x44 :: x45 :: x46 :: x47 :: x48 :: x49 :: x50 :: x51 :: x52 :: x53 :: x54 :: x55 :: x56 :: x57 :: x58 :: x59 :: x60 :: x61 :: x62 :: x63 :: x64 :: x65 ::
      x66 :: x67 :: x68 :: x69 :: x70 :: x71 :: x72 :: x73 :: x74 :: x75 :: x76 :: u77 :: u78 :: u79 :: u80 :: u81 :: u82 :: u83 :: u84 :: u85 :: u86 :: u87 :: u88 :: u89 :: u90 :: u91 :: u92 :: u93 :: u94 :: u95 :: u96 :: u97 :: u98 :: u99 :: []), []⟩ w') :
    (Code.loop (loopBody Tryd.f40 2)).wp Tryd.prog Q ⟨List.toArray (u0 :: u1 :: (.pointer (some ⟨g2, 0, none⟩)) :: u3 :: u4 :: u5 :: (.slice AW n cW) :: (.slice AS n cS) :: u8 :: vL :: vM :: (.int .i64 k) :: (.int .i64 0) :: u13 :: u14 :: u15 :: u16 :: u17 :: u18 :: u19 :: u20 :: u21 :: u22 :: u23 :: u24 :: u25 :: u26 :: u27 ::
      u28 :: u29 :: u30 :: u31 :: u32 :: u33 :: u34 :: u35 :: u36 :: u37 :: u38 :: u39 :: u40 :: u41 :: u42 :: u43 :: u44 :: u45 :: u46 :: u47 :: u48 :: u49 :: u50 :: u51 :: u52 :: u53 :: u54 :: u55 :: u56 :: u57 :: u58 :: u59 :: u60 :: u61 :: u62 :: u63 :: u64 ::
      u65 :: u66 :: u67 :: u68 :: u69 :: u70 :: u71 :: u72 :: u73 :: u74 :: u75 :: u76 :: u77 :: u78 :: u79 :: u80 :: u81 :: u82 :: u83 :: u84 :: u85 :: u86 :: u87 :: u88 :: u89 :: u90 :: u91 :: u92 :: u93 :: u94 :: u95 :: u96 :: u97 :: u98 :: u99 :: []), []⟩ w := by
  conv => arg 2; arg 1; whnf
  have hMH := hide hM
  have hWH := hide hWA
  have hinH := hide hin
  have hSH := hide hS
  have hSeH := hide hSe
  have hpH := hide hp
  have hqH := hide hq
  have hmlH := hide hml
  have hplH := hide hpl
  have hlenH := hide hlen
  have hnH := hide hn
  have hn'H := hide hn'
  have hS9 : S ≤ 200000 := by rw [← hSe]; unfold WA.n; omega
  have hkn : k < n := by rw [hn]; exact lt_of_get hp
  have hLH0 : Hid (a.L ≤ 8) := hL
  obtain ⟨L, hLe⟩ : ∃ L, L = a.L := ⟨_, rfl⟩
  have hLH := hide hLe
  rw [← hLe] at hL
  have hMH2 := hMH
  have hWH2 := hWH
  rw [← hLe] at hMH2 hWH2
  simp only [← hLe] at hQ
  clear hM hWA hin hS hSe hp hq hml hpl hlen hn hn' hMH hWH hLe
  go_loopw [9, 10, 12] (fun vv rr xx wr => ∃ (x : Nat) (ls' ms' : List Value), xx = .int .i64 (x : Int) ∧ x ≤ L ∧ Hid (RwM w0 wr g2 #[.int .i64 (L : Int), .int .i64 (S : Int), .slice A1 l1 c1, .slice A2 l2 c2, .slice A3 l3 c3] (.slice AW n cW) (.slice AS n cS) vv rr W (Lg ++ (lvX a.nf mi x).map fun y => p ++ [y]) Sg (Mg ++ (lvX a.nf mi x).map fun y => a.nf.after mi y) us ss ls' ms')) (fun _ _ xx _ => L - (intOf xx).toNat)
  case atStart => exact ⟨0, ls, ms, rfl, Nat.zero_le _, by rw [lvX_zero]; simpa using hMH2⟩
  case round =>
    obtain ⟨x, ls', ms', rfl, hx, hI⟩ := hrel
    have hcb := hI.out.b2.cell
    by_cases hxL : x < L
    · obtain ⟨gS, c, gm, e1, e2, e3⟩ := hI.out.set_ hqH.out
      injection e1 with e1 e11 e12
      subst e1 e12
      have h0d := hI.out.below.trans ((drewB wr).mono hI.out.below.size)
      have hcall := after_any (x := x) (hWH2.out.keep (w' := wr.drew) (fun q hq => h0d.cell hq) h0d.size) hinH.out hSH.out (show Marks wr.drew wr.drew.heap.size (.slice (some ⟨gm, 0, none⟩) mi.length mi.length) mi from e3.keep (drewB wr) (Nat.le_refl _)) hmlH.out (by rw [← hLH.out]; exact hxL)
      obtain ⟨AL, cL, rfl⟩ := slice_of_own hI.out.l
      obtain ⟨AM, cM, rfl⟩ := slice_of_own hI.out.m
      obtain ⟨ll, hll⟩ : ∃ ll, ll = (Lg ++ (lvX a.nf mi x).map fun y => p ++ [y]).length := ⟨_, rfl⟩
      obtain ⟨lm, hlm⟩ : ∃ lm, lm = (Mg ++ (lvX a.nf mi x).map fun y => a.nf.after mi y).length := ⟨_, rfl⟩
      have hlle : lm = ll ∧ ll ≤ 1000008 := by
        have := lvX_len a.nf mi x
        have := hlenH.out
        rw [List.length_append, List.length_map] at hll hlm
        omega
      obtain ⟨rfl, hl9⟩ := hlle
      rw [hmlH.out, hSeH.out] at e2 hcall
      rw [← hll, ← hlm] at hI ⊢
      have hllH := hide hll
      have hlmH := hide hlm
      have hId := hide (hI.out.keep (drewB wr))
      clear e3 h0d e11 hll hlm
      go_wp2_with fail
      refine Reg.cP [0, 0, 0, 6, 14, 0, 63, 127] ?_ (by kernel_rfl) (by repeat (first | exact hN | refine Reg.NoQ.then ?_ | refine Reg.NoQ.inBlock ?_))
      go_wp2_with fail
      refine Calls.ret hcall ?_
      rintro vT w3 ⟨hb3, hMT, hfr⟩
      obtain ⟨gT, hgT, rfl, hBT⟩ := hMT
      have hfl : (a.nf.after mi x).length = S := by rw [NF.after_len, a.nf_n, hSeH.out]
      have hgfr := hfr gT rfl
      have hI3 := hide (hId.out.keep hb3)
      have hsz3 : w0.heap.size ≤ gT := Nat.le_trans hId.out.below.size hgfr
      obtain ⟨gz, w4, hmk, hBz, hb4, hgz⟩ := mk_bools w3 S (by omega)
      have hI4 := hide (hI3.out.keep hb4)
      have hcb4 := hI4.out.b2.cell
      have hcb3 := hI3.out.b2.cell
      have hsame := sameMarks_any (B1 := w4.heap.size) (B2 := w4.heap.size) (S := S) (m1 := a.nf.after mi x) (m2 := List.replicate S false) (u1 := .slice (some ⟨gT, 0, none⟩) S S) (u2 := .slice (some ⟨gz, 0, none⟩) S S) (w := w4)
        ⟨gT, by have := hBT.lt; have := hb4.size; omega, by rw [hfl], hBT.below hb4⟩ ⟨gz, hBz.lt, by rw [List.length_replicate], by rw [repl_list] at hBz; rw [List.map_replicate]; exact hBz⟩ hfl (by simp) (by omega)
      have hsz : Hid (decide (a.nf.after mi x = List.replicate S false) = !someM (a.nf.after mi x)) := by show _ = _; rw [← same_zero, hfl]
      rw [hsz.out] at hsame
      have hset4 := hide (show MkAt w4 w0.heap.size (.slice (some ⟨gT, 0, none⟩) S S) (a.nf.after mi x) from ⟨gT, by rw [hfl], hsz3, hBT.below hb4⟩)
      rw [hfl]
      clear hcall hb3 hfr hgT hBT hId hcb e2 hfl hgfr hBz hb4 hgz hI3
      cases hsm : someM (a.nf.after mi x) with
      | false =>
        rw [hsm] at hsame
        have hno := hide (lvX_no hsm)
        clear hsm
        go_wp2_with fail
        refine Calls.ret hsame ?_
        rintro r w5 ⟨rfl, hb5⟩
        have hI5 := hide (hI4.out.keep hb5)
        clear hsame hb5
        go_wp2_with fail
        exact ⟨⟨x + 1, ls', ms', by go_num, by omega, by rw [hno.out]; exact hI5⟩, by simp [intOf]; omega⟩
      | true =>
        rw [hsm] at hsame
        have hyes := hide (lvX_yes hsm)
        clear hsm
        go_wp2_with fail
        refine Calls.ret hsame ?_
        rintro r w5 ⟨rfl, hb5⟩
        have hI5 := hide (hI4.out.keep hb5)
        have hset5 := hide (hset4.out.kept (Kept.of_below hb5 (fun _ => False)) (fun _ _ e => e.elim))
        clear hsame hb5
        obtain ⟨gW, cW', AP, cP, q1, q2, q3⟩ := hI5.out.word hpH.out (by rw [← hplH.out]; omega)
        injection q1 with q1 q11 q12
        subst q1 q12
        rw [← hplH.out] at q2
        have hcopy := copyInts_any (c := cP) (n := pl) q3 (Nat.le_refl _) (by rw [hplH.out]; simp [natL]) (by simp [natL]; rw [← hplH.out]; omega)
        clear q3 q11
        go_wp2_with fail
        refine Calls.ret hcopy ?_
        rintro vC w6 ⟨hb6, hownC⟩
        have hb6H := hide hb6
        obtain ⟨AC, cC, rfl⟩ := slice_of_own hownC
        have hsz6 := hb6.size
        have hpl4 : pl + 1 ≤ 4000000 := by omega
        have hll4 : lm + 1 ≤ 4000000 := by omega
        have hownCH := hide hownC
        clear hcopy hb6
        go_wp2_with (
          at_builtin
          first
          | (refine wpList_app_new (w := w6) row3 rfl _ _ rfl w5.heap.size (.slice AC pl cC) pl _ rfl hownC [.int .i64 (x : Int)] 1 rfl rfl (by simp [Value.oneCell']) hpl4 hsz6 ?_
             intro g7 cap7 w7 hown7 hk7 hmv7 hg7
             have hb57 := hb6H.out.trans (hk7.below hsz6 fun b hb e => by have := own_base hownCH.out e; omega)
             have hI7 := hide (hI5.out.keep hb57)
             have hset7 := hide (hset5.out.kept (Kept.of_below hb57 (fun _ => False)) (fun _ _ e => e.elim))
             have hrow7 : Hid (w7.ownsRow w0.heap.size 3 1 (.slice (some ⟨g7, 0, none⟩) (pl + 1) cap7) (p ++ [x]).length ((natL (p ++ [x])).map (Value.int .i64))) := by
               show World.ownsRow _ _ _ _ _ _ _
               rw [natL_snoc, List.map_append, List.length_append, ← hplH.out]
               exact own_mono hown7 hI5.out.below.size
             have hL7 := hI7.out.l
             rw [← hllH.out] at hL7
             have hsz7 := hI7.out.below.size
             clear hown7 hk7 hmv7 hg7 hb57)
          | (refine wpList_app_new (w := w7) row22 rfl _ _ rfl w0.heap.size (.slice AL lm cL) lm _ rfl hL7 [.slice (some ⟨g7, 0, none⟩) (pl + 1) cap7] 1 rfl rfl (by simp [Value.oneCell']) hll4 hsz7 ?_
             intro g8 cap8 w8 hown8 hk8 hmv8 hg8
             have hI8 := hide (hI7.out.addL (d := p ++ [x]) (vL' := .slice (some ⟨g8, 0, none⟩) (lm + 1) cap8) hrow7.out hk8 (by rw [← hllH.out]; exact hown8) hmv8)
             have hset8 := hide (hset7.out.kept hk8 (fun g cs e hB => own_blk_ne hL7 hB (by decide) e))
             have hM8 := hI8.out.m
             rw [← hlmH.out] at hM8
             have hsz8 := hI8.out.below.size
             clear hown8 hk8 hmv8 hg8)
          | (refine wpList_app_new (w := w8) row70 rfl _ _ rfl w0.heap.size (.slice AM lm cM) lm _ rfl hM8 [.slice (some ⟨gT, 0, none⟩) S S] 1 rfl rfl (by simp [Value.oneCell']) hll4 hsz8 ?_
             intro g9 cap9 w9 hown9 hk9 hmv9 hg9
             have hI9 := hide (hI8.out.addM (mm := a.nf.after mi x) (vM' := .slice (some ⟨g9, 0, none⟩) (lm + 1) cap9) hset8.out hk9 (by rw [← hlmH.out]; exact hown9) hmv9)
             clear hown9 hk9 hmv9 hg9))
        refine ⟨⟨x + 1, ls' ++ [.slice (some ⟨g7, 0, none⟩) (pl + 1) cap7], ms' ++ [.slice (some ⟨gT, 0, none⟩) S S], by go_num, by omega, ?_⟩, by simp [intOf]; omega⟩
        rw [hyes.out, List.map_append, List.map_append, ← List.append_assoc, ← List.append_assoc]
        exact hI9
    · obtain rfl : x = L := by omega
      have hIo := hI.out
      rw [hLH.out] at hIo
      have hIoH := hide hIo
      clear hIo
      go_wp2_with fail
      first | exact hIoH.out | exact hQ _ _ _ _ _ _ _ _ _ _ _ _ _ _ _ _ _ _ _ _ _ _ _ _ _ _ _ _ _ _ _ _ _ _ _ _ wr _ _ ls' ms' (by have := hIoH.out; rw [← hLH.out] at this; exact this)
end Go.Proofs.YtpmceapjnnkhjaaDoor
namespace Go.Proofs.YtpmceapjnnkhjaaDoor
open Go.RowKit
set_option maxHeartbeats 16000000
set_option maxRecDepth 100000
def fS (a : WA) (p : List Nat) : List Bool := runW a.nf.after a.nf.st p
def nxW (a : WA) (p : List Nat) : List (List Nat) := (lvX a.nf (fS a p) a.L).map fun y => p ++ [y]
theorem nxW_set (a : WA) (p : List Nat) : (nxW a p).map (fS a) = (lvX a.nf (fS a p) a.L).map fun y => a.nf.after (fS a p) y := by
 unfold nxW
 rw [List.map_map]
 refine List.map_congr_left fun y _ => ?_
 show runW _ _ (p ++ [y]) = _
 rw [runW_snoc]
 rfl
theorem nxW_len (a : WA) (p : List Nat) : (nxW a p).length ≤ a.L := by
 unfold nxW
 rw [List.length_map]
 exact lvX_len _ _ _
theorem round_nx (a : WA) (i : Nat) : a.nf.round (i + 1) = (a.nf.round i).flatMap (nxW a) := by
 show List.filter _ _ = _
 rw [filter_flat]
 simp only [List.flatMap]
 congr 1
 refine List.map_congr_left fun p _ => ?_
 unfold nxW lvX
 rw [List.filter_map]
 have hLL : a.nf.L = a.L := rfl
 rw [hLL]
 congr 1
 refine List.filter_congr fun y _ => ?_
 show someM (runW a.nf.after a.nf.st (p ++ [y])) = _
 rw [runW_snoc]
 rfl
theorem round_len (a : WA) : ∀ i, (a.nf.round i).length ≤ a.L ^ i
 | 0 => Nat.le_refl _
 | i + 1 => by
  rw [round_nx, Nat.pow_succ]
  refine Nat.le_trans (flat_len (k := a.L) fun p _ => nxW_len a p) (Nat.mul_le_mul_right _ (round_len a i))
where
 flat_len {A B : Type} {f : A → List B} {k : Nat} : ∀ {l : List A}, (∀ a ∈ l, (f a).length ≤ k) → (l.flatMap f).length ≤ l.length * k
 | [], _ => by simp
 | a :: l, h => by
  have h1 := h a List.mem_cons_self
  have h2 := flat_len (f := f) (k := k) (l := l) fun b hb => h b (List.mem_cons_of_mem _ hb)
  rw [List.flatMap_cons, List.length_append, List.length_cons, Nat.succ_mul]
  omega
theorem round_mem (a : WA) : ∀ i, ∀ p ∈ a.nf.round i, p.length = i ∧ okW a.L p
 | 0, p, hp => by
  have : p = [] := List.mem_singleton.1 hp
  subst this
  exact ⟨rfl, okW.nil _⟩
 | i + 1, p, hp => by
  rw [round_nx] at hp
  obtain ⟨q, hq, hp⟩ := List.mem_flatMap.1 hp
  obtain ⟨y, hy, rfl⟩ := List.mem_map.1 hp
  obtain ⟨h1, h2⟩ := round_mem a i q hq
  have := List.mem_range.1 (List.mem_filter.1 hy).1
  exact ⟨by simp [h1], h2.snoc this⟩
theorem rw_k {w0 w : World} {g2 n S pl cW cS l1 c1 l2 c2 l3 c3 : Nat} {A1 A2 A3 AW AS : Option Addr} {a : WA} {W : List (List Nat)} {us ss : List Value}
  (hM : RwM w0 w g2 #[.int .i64 (a.L : Int), .int .i64 (S : Int), .slice A1 l1 c1, .slice A2 l2 c2, .slice A3 l3 c3] (.slice AW n cW) (.slice AS n cS) sn0 sn0 W [] (W.map (fS a)) [] us ss [] []) (hWA : IsWA w0 w0.heap.size (.agg #[.int .i64 (a.L : Int), .int .i64 (S : Int), .slice A1 l1 c1, .slice A2 l2 c2, .slice A3 l3 c3]) a) (hin : a.In) (hS : 0 ≤ a.states ∧ a.states ≤ 200000) (hSe : a.n = S) (hL : a.L ≤ 8)
  (hW : ∀ p ∈ W, p.length = pl ∧ okW a.L p) (hp9 : pl ≤ 100) (hn : n = W.length) (hn9 : n ≤ 100000)
  {u0 u1 u3 u4 u5 u8 u12 u13 u14 u15 u16 u17 u18 u19 u20 u21 u22 u23 u24 u25 u26 u27 u28 u29 u30 u31 u32 u33 u34 u35 u36 u37 u38 u39 u40 u41 u42 u43 u44 u45 u46 u47 u48 u49 u50 u51 u52 u53 u54 u55 u56 u57 u58 u59 u60 u61 u62 u63 u64 u65 u66 u67 u68 u69 u70 u71 u72 u73 u74 u75 u76 u77 u78 u79 u80 u81 u82 u83 u84 u85 u86 u87 u88 u89 u90 u91 u92 u93 u94 u95 u96 u97 u98 u99 : Value}
  {Q : Exit → Act → World → Prop} (hN : Reg.NoQ Q)
  (hQ : ∀ (x11 x12 x13 x37 x38 x39 x40 x41 x42 x43 x44 x45 x46 x47 x48 x49 x50 x51 x52 x53 x54 x55 x56 x57 x58 x59 x60 x61 x62 x63 x64 x65 x66 x67 x68 x69 x70 x71 x72 x73 x74 x75 x76 : Value) (w' : World) (vL' vM' : Value) (ls' ms' : List Value), RwM w0 w' g2 #[.int .i64 (a.L : Int), .int .i64 (S : Int), .slice A1 l1 c1, .slice A2 l2 c2, .slice A3 l3 c3] (.slice AW n cW) (.slice AS n cS) vL' vM' W (W.flatMap (nxW a)) (W.map (fS a)) ((W.flatMap (nxW a)).map (fS a)) us ss ls' ms' →
   Q (.exit 2) ⟨List.toArray (u0 :: u1 :: (.pointer (some ⟨g2, 0, none⟩)) :: u3 :: u4 :: u5 :: (.slice AW n cW) :: (.slice AS n cS) :: u8 :: vL' :: vM' :: x11 :: x12 :: x13 :: u14 :: u15 :: u16 :: u17 :: u18 :: u19 :: u20 :: u21 :: u22 :: u23 :: u24 :: u25 :: u26 :: u27 :: u28 :: u29 ::
   u30 :: u31 :: u32 :: u33 :: u34 :: u35 :: u36 :: x37 :: x38 :: x39 :: x40 :: x41 :: x42 :: x43 :: x44 :: x45 :: x46 :: x47 :: x48 :: x49 :: x50 :: x51 :: x52 :: x53 :: x54 :: x55 :: x56 :: x57 :: x58 :: x59 :: x60 :: x61 :: x62 :: x63 :: x64 :: x65 :: x66 ::
   x67 :: x68 :: x69 :: x70 :: x71 :: x72 :: x73 :: x74 :: x75 :: x76 :: u77 :: u78 :: u79 :: u80 :: u81 :: u82 :: u83 :: u84 :: u85 :: u86 :: u87 :: u88 :: u89 :: u90 :: u91 :: u92 :: u93 :: u94 :: u95 :: u96 :: u97 :: u98 :: u99 :: []), []⟩ w') :
  (Code.loop (loopBody Tryd.f40 1)).wp Tryd.prog Q ⟨List.toArray (u0 :: u1 :: (.pointer (some ⟨g2, 0, none⟩)) :: u3 :: u4 :: u5 :: (.slice AW n cW) :: (.slice AS n cS) :: u8 :: sn0 :: sn0 :: (.int .i64 0) :: u12 :: u13 :: u14 :: u15 :: u16 :: u17 :: u18 :: u19 :: u20 :: u21 :: u22 :: u23 :: u24 :: u25 :: u26 :: u27 :: u28 ::
   u29 :: u30 :: u31 :: u32 :: u33 :: u34 :: u35 :: u36 :: u37 :: u38 :: u39 :: u40 :: u41 :: u42 :: u43 :: u44 :: u45 :: u46 :: u47 :: u48 :: u49 :: u50 :: u51 :: u52 :: u53 :: u54 :: u55 :: u56 :: u57 :: u58 :: u59 :: u60 :: u61 :: u62 :: u63 :: u64 :: u65 ::
   u66 :: u67 :: u68 :: u69 :: u70 :: u71 :: u72 :: u73 :: u74 :: u75 :: u76 :: u77 :: u78 :: u79 :: u80 :: u81 :: u82 :: u83 :: u84 :: u85 :: u86 :: u87 :: u88 :: u89 :: u90 :: u91 :: u92 :: u93 :: u94 :: u95 :: u96 :: u97 :: u98 :: u99 :: []), []⟩ w := by
 conv => arg 2; arg 1; whnf
 have hMH := hide hM
 have hWAH := hide hWA
 have hinH := hide hin
 have hSH := hide hS
 have hSeH := hide hSe
 have hWH := hide hW
 have hnH := hide hn
 have hLH := hide hL
 clear hM hWA hin hS hSe hW hn hL
 go_loopw [9, 10, 11] (fun vv rr kk wr => ∃ (k : Nat) (ls' ms' : List Value), kk = .int .i64 (k : Int) ∧ k ≤ n ∧ Hid (RwM w0 wr g2 #[.int .i64 (a.L : Int), .int .i64 (S : Int), .slice A1 l1 c1, .slice A2 l2 c2, .slice A3 l3 c3] (.slice AW n cW) (.slice AS n cS) vv rr W ((W.take k).flatMap (nxW a)) (W.map (fS a)) (((W.take k).flatMap (nxW a)).map (fS a)) us ss ls' ms')) (fun _ _ kk _ => n - (intOf kk).toNat)
 case atStart => exact ⟨0, [], [], rfl, Nat.zero_le _, by simpa using hMH⟩
 case round =>
  obtain ⟨k, ls', ms', rfl, hk, hI⟩ := hrel
  by_cases hlt : k < n
  ·obtain ⟨p, hp⟩ := get_lt (l := W) (i := k) (by rw [← hnH.out]; exact hlt)
   obtain ⟨hpl, hpo⟩ := hWH.out p (List.mem_of_getElem? hp)
   have hq := map_get (f := fS a) hp
   have hml : (fS a p).length = a.n := by rw [← a.nf_n]; exact a.nf.run_len hpo
   have hlg : ((W.take k).flatMap (nxW a)).length ≤ 1000000 := by
    have h1 := round_len.flat_len (f := nxW a) (k := a.L) (l := W.take k) fun q _ => nxW_len a q
    have h2 : (W.take k).length * a.L ≤ 100000 * 8 := Nat.mul_le_mul (by rw [List.length_take]; omega) hLH.out
    omega
   have hnx := hide (show (W.take (k + 1)).flatMap (nxW a) = (W.take k).flatMap (nxW a) ++ nxW a p from by
    rw [take_snoc hp, List.flatMap_append]
    simp)
   have hqH := hide hq
   have hpH := hide hp
   have hmlH := hide hml
   have hlgH := hide hlg
   have hplH := hide hpl
   have hns := hide (nxW_set a p)
   clear hpl hpo hq hp hml hlg
   go_wp2_with fail
   refine rw_x (p := p) (mi := fS a p) (pl := pl) hI.out hWAH.out hinH.out hSH.out hSeH.out hLH.out hpH.out hqH.out hmlH.out hplH.out.symm hp9 (by rw [List.length_map]) hlgH.out hnH.out (by rw [List.length_map]; exact hnH.out) ?_ ?_
   ·repeat (first | exact hN | exact Reg.NoQ.body (fun _ _ h => h) (fun _ h => h) | refine Reg.NoQ.then ?_ | refine Reg.NoQ.inBlock ?_)
   ·iterate 36 (intro _)
    intro w2 vL' vM' ls2 ms2 hM2
    have hM2H := hide hM2
    clear hM2
    go_wp2_with fail
    refine ⟨⟨k + 1, ls2, ms2, by go_num, by omega, ?_⟩, by simp [intOf]; omega⟩
    rw [hnx.out, List.map_append, hns.out]
    exact hM2H
  ·obtain rfl : k = n := by omega
   have hIo := hI.out
   rw [List.take_of_length_le (by rw [← hnH.out]; exact Nat.le_refl _)] at hIo
   have hIoH := hide hIo
   clear hIo hI
   go_wp2_with fail
   first | exact hIoH.out | exact hQ _ _ _ _ _ _ _ _ _ _ _ _ _ _ _ _ _ _ _ _ _ _ _ _ _ _ _ _ _ _ _ _ _ _ _ _ _ _ _ _ _ _ _ wr _ _ ls' ms' hIoH.out
end Go.Proofs.YtpmceapjnnkhjaaDoor
namespace Go.Proofs.YtpmceapjnnkhjaaDoor
open Go.RowKit
set_option maxHeartbeats 16000000
set_option maxRecDepth 100000
theorem rw_out {w0 w : World} {g2 n S pl cW cS l1 c1 c2 l3 c3 : Nat} {A1 A2 A3 AW AS : Option Addr} {a : WA} {W : List (List Nat)} {us ss : List Value}
  (hM : RwM w0 w g2 #[.int .i64 (a.L : Int), .int .i64 (S : Int), .slice A1 l1 c1, .slice A2 a.accept.length c2, .slice A3 l3 c3] (.slice AW n cW) (.slice AS n cS) sn0 sn0 W [] (W.map (fS a)) [] us ss [] []) (h2 : Sl w0 w0.heap.size 1 encI A2 a.accept) (hin : a.In) (hS : 0 ≤ a.states) (hSe : a.n = S)
  (hW : ∀ p ∈ W, p.length = pl ∧ okW a.L p) (hp9 : pl ≤ 100) (hn : n = W.length) (hn9 : n ≤ 100000)
  {u0 u1 u3 u4 u5 u8 u9 u10 u11 u12 u13 u16 u17 u18 u19 u20 u21 u22 u23 u24 u25 u26 u27 u28 u29 u30 u31 u32 u33 u34 u35 u36 u37 u38 u39 u40 u41 u42 u43 u44 u45 u46 u47 u48 u49 u50 u51 u52 u53 u54 u55 u56 u57 u58 u59 u60 u61 u62 u63 u64 u65 u66 u67 u68 u69 u70 u71 u72 u73 u74 u75 u76 u77 u78 u79 u80 u81 u82 u83 u84 u85 u86 u87 u88 u89 u90 u91 u92 u93 u94 u95 u96 u97 u98 u99 : Value}
  {Q : Exit → Act → World → Prop} (hN : Reg.NoQ Q)
  (hQ : ∀ (x15 x79 x80 x81 x82 x83 x84 x85 x86 x87 x88 x89 x90 x91 x92 x93 x94 x95 x96 x97 x98 : Value) (w' : World) (vL' : Value) (ls' : List Value), RwM w0 w' g2 #[.int .i64 (a.L : Int), .int .i64 (S : Int), .slice A1 l1 c1, .slice A2 a.accept.length c2, .slice A3 l3 c3] (.slice AW n cW) (.slice AS n cS) vL' sn0 W (W.filter a.nf.lang) (W.map (fS a)) [] us ss ls' [] →
   Q (.exit 6) ⟨List.toArray (u0 :: u1 :: (.pointer (some ⟨g2, 0, none⟩)) :: u3 :: u4 :: u5 :: (.slice AW n cW) :: (.slice AS n cS) :: u8 :: u9 :: u10 :: u11 :: u12 :: u13 :: vL' :: x15 :: u16 :: u17 :: u18 :: u19 :: u20 :: u21 :: u22 :: u23 :: u24 :: u25 :: u26 :: u27 :: u28 :: u29 :: u30 ::
   u31 :: u32 :: u33 :: u34 :: u35 :: u36 :: u37 :: u38 :: u39 :: u40 :: u41 :: u42 :: u43 :: u44 :: u45 :: u46 :: u47 :: u48 :: u49 :: u50 :: u51 :: u52 :: u53 :: u54 :: u55 :: u56 :: u57 :: u58 :: u59 :: u60 :: u61 :: u62 :: u63 :: u64 :: u65 :: u66 :: u67 ::
   u68 :: u69 :: u70 :: u71 :: u72 :: u73 :: u74 :: u75 :: u76 :: u77 :: u78 :: x79 :: x80 :: x81 :: x82 :: x83 :: x84 :: x85 :: x86 :: x87 :: x88 :: x89 :: x90 :: x91 :: x92 :: x93 :: x94 :: x95 :: x96 :: x97 :: x98 :: u99 :: []), []⟩ w') :
  (Code.loop (loopBody Tryd.f40 3)).wp Tryd.prog Q ⟨List.toArray (u0 :: u1 :: (.pointer (some ⟨g2, 0, none⟩)) :: u3 :: u4 :: u5 :: (.slice AW n cW) :: (.slice AS n cS) :: u8 :: u9 :: u10 :: u11 :: u12 :: u13 :: sn0 :: (.int .i64 0) :: u16 :: u17 :: u18 :: u19 :: u20 :: u21 :: u22 :: u23 :: u24 :: u25 :: u26 :: u27 :: u28 ::
   u29 :: u30 :: u31 :: u32 :: u33 :: u34 :: u35 :: u36 :: u37 :: u38 :: u39 :: u40 :: u41 :: u42 :: u43 :: u44 :: u45 :: u46 :: u47 :: u48 :: u49 :: u50 :: u51 :: u52 :: u53 :: u54 :: u55 :: u56 :: u57 :: u58 :: u59 :: u60 :: u61 :: u62 :: u63 :: u64 :: u65 ::
   u66 :: u67 :: u68 :: u69 :: u70 :: u71 :: u72 :: u73 :: u74 :: u75 :: u76 :: u77 :: u78 :: u79 :: u80 :: u81 :: u82 :: u83 :: u84 :: u85 :: u86 :: u87 :: u88 :: u89 :: u90 :: u91 :: u92 :: u93 :: u94 :: u95 :: u96 :: u97 :: u98 :: u99 :: []), []⟩ w := by
 conv => arg 2; arg 1; whnf
 have hMH := hide hM
 have h2H := hide h2
 have hinH := hide hin
 have hSeH := hide hSe
 have hSH := hide hS
 have hWH := hide hW
 have hnH := hide hn
 have h2l := h2.1
 obtain ⟨n2, hn2⟩ : ∃ n2, n2 = a.accept.length := ⟨_, rfl⟩
 rw [← hn2] at hMH h2l
 simp only [← hn2] at hQ
 have hn2H := hide hn2
 clear hM h2 hin hS hSe hW hn hn2
 go_loopw [14, 15] (fun vv kk wr => ∃ (k : Nat) (ls' : List Value), kk = .int .i64 (k : Int) ∧ k ≤ n ∧ Hid (RwM w0 wr g2 #[.int .i64 (a.L : Int), .int .i64 (S : Int), .slice A1 l1 c1, .slice A2 n2 c2, .slice A3 l3 c3] (.slice AW n cW) (.slice AS n cS) vv sn0 W ((W.take k).filter a.nf.lang) (W.map (fS a)) [] us ss ls' [])) (fun _ kk _ => n - (intOf kk).toNat)
 case atStart => exact ⟨0, [], rfl, Nat.zero_le _, by simpa using hMH⟩
 case round =>
  obtain ⟨k, ls', rfl, hk, hI⟩ := hrel
  have hcb := hI.out.b2.cell
  by_cases hlt : k < n
  ·obtain ⟨p, hp⟩ := get_lt (l := W) (i := k) (by rw [← hnH.out]; exact hlt)
   obtain ⟨hpl, hpo⟩ := hWH.out p (List.mem_of_getElem? hp)
   have hml : (fS a p).length = a.n := by rw [← a.nf_n]; exact a.nf.run_len hpo
   have hlg : ((W.take k).filter a.nf.lang).length + 1 ≤ 4000000 := by
    have h1 := List.length_filter_le a.nf.lang (W.take k)
    rw [List.length_take] at h1
    omega
   obtain ⟨gS, c, gm, e1, e2, e3⟩ := hI.out.set_ (map_get (f := fS a) hp)
   injection e1 with e1 e11 e12
   subst e1 e12
   obtain ⟨gW, cW', AP, cP, q1, q2, q3⟩ := hI.out.word hp (by omega)
   injection q1 with q1 q11 q12
   subst q1 q12
   have hme := meets_any (c := c2) (show Marks wr.drew wr.drew.heap.size (.slice (some ⟨gm, 0, none⟩) (fS a p).length (fS a p).length) (fS a p) from e3.keep (drewB wr) (Nat.le_refl _)) (h2H.out.keep (w' := wr.drew) (fun q hq => hI.out.below.cell hq) hI.out.below.size) (by
    rw [hml, hSeH.out]
    intro x hx
    have := hinH.out.accept x hx
    rw [inN_iff] at this ⊢
    have h5 : (S : Int) = a.states := by rw [← hSeH.out]; unfold WA.n; have := hSH.out; omega
    omega)
   rw [WA.meets_has hinH.out, ← hn2H.out] at hme
   rw [hml, hSeH.out] at e2 hme
   obtain ⟨bh, hbh⟩ : ∃ bh, bh = a.nf.has (fS a p) := ⟨_, rfl⟩
   rw [← hbh] at hme
   have hla := hide (show a.nf.lang p = bh from hbh.symm)
   have htk := hide (take_snoc hp)
   obtain ⟨u, hu, hur, -⟩ := F2.at hI.out.wR (map_get (f := natL) hp)
   obtain ⟨gW2, cW2, z1, z2⟩ := own_get hI.out.w hu
   injection z1 with z1 z11 z12
   injection z1 with z1
   injection z1 with z1
   subst z1
   obtain ⟨AU, cU, rfl⟩ := slice_of_own hur
   have huL := hide hur
   have hI2 := hide (hI.out.keep (drewB wr))
   obtain ⟨AL, cL, hvL⟩ := slice_of_own hI.out.l
   obtain ⟨ll, hll⟩ : ∃ ll, ll = ((W.take k).filter a.nf.lang).length := ⟨_, rfl⟩
   have hLd := hI2.out.l
   rw [← hll] at hLd hvL hlg
   have hllH := hide hll
   have hsz := hI.out.below.size
   have hlp : (natL p).length = p.length := by simp [natL]
   rw [hlp] at z2
   rw [hpl] at z2
   have hplH := hide hpl
   subst hvL
   clear hpl hpo hml e3 q3 e11 q11 q2 hbh hp hu hur z11 z12 hll hlp
   cases bh with
   | false =>
    go_wp2_with fail
    refine Reg.cP [0, 0, 3, 7, 0, 16, 63] ?_ (by kernel_rfl) (by repeat (first | exact hN | refine Reg.NoQ.then ?_ | refine Reg.NoQ.inBlock ?_))
    go_wp2_with fail
    refine hme.mono ?_
    rintro r w8 ⟨rfl, rfl⟩
    clear hme
    go_wp2_with fail
    refine ⟨⟨k + 1, ls', by go_num, by omega, ?_⟩, by simp [intOf]; omega⟩
    rw [htk.out, List.filter_append, List.filter_cons, hla.out]
    simpa using hI2
   | true =>
    go_wp2_with fail
    refine Reg.cP [0, 0, 3, 7, 0, 16, 63] ?_ (by kernel_rfl) (by repeat (first | exact hN | refine Reg.NoQ.then ?_ | refine Reg.NoQ.inBlock ?_))
    go_wp2_with fail
    refine hme.mono ?_
    rintro r w8 ⟨rfl, rfl⟩
    clear hme
    go_wp2_with (
     at_builtin
     refine wpList_app_new (w := wr.drew) row22 rfl _ _ rfl w0.heap.size (.slice AL ll cL) ll _ rfl hLd [.slice AU pl cU] 1 rfl rfl (by simp [Value.oneCell']) hlg hsz ?_
     intro g8 cap8 w8 hown8 hk8 hmv8 hg8
     have hI8 := hide (hI2.out.addL (d := p) (v := .slice AU pl cU) (vL' := .slice (some ⟨g8, 0, none⟩) (ll + 1) cap8) (by have h1 := huL.out; rw [show (natL p).length = p.length from by simp [natL], hplH.out] at h1; rw [hplH.out]; exact h1) hk8 (by rw [← hllH.out]; exact hown8) hmv8)
     clear hown8 hk8 hmv8 hg8)
    refine ⟨⟨k + 1, ls' ++ [.slice AU pl cU], by go_num, by omega, ?_⟩, by simp [intOf]; omega⟩
    rw [htk.out, List.filter_append, List.filter_cons, hla.out]
    simpa using hI8
  ·obtain rfl : k = n := by omega
   have hIo := hI.out
   rw [List.take_of_length_le (by rw [← hnH.out]; exact Nat.le_refl _)] at hIo
   have hIoH := hide hIo
   clear hIo hI
   go_wp2_with fail
   first | exact hIoH.out | exact hQ _ _ _ _ _ _ _ _ _ _ _ _ _ _ _ _ _ _ _ _ _ wr _ ls' hIoH.out
end Go.Proofs.YtpmceapjnnkhjaaDoor
