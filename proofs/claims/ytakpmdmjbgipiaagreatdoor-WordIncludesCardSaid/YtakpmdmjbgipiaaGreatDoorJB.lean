/-
  Part JB of a proof.
-/
import Derived.Test.YtakpmdmjbgipiaaGreatDoorPA
import Derived.Test.YtakpmdmjbgipiaaGreatDoorJA
import Derived.Test.YtakpmdmjbgipiaaGreatDoorPK
set_option maxHeartbeats 16000000
set_option maxRecDepth 100000
set_option linter.unusedVariables false
set_option linter.unusedSimpArgs false
namespace Go.Proofs.YtakpmdmjbgipiaaGreatDoor
open Go.RowKit
set_option maxHeartbeats 16000000
set_option maxRecDepth 100000
theorem info70 : (Tryz.prog.info? 50).map (fun i => (i.zero, i.size, i.bytes)) = some (some (.slice none 0 0), 1, 24) := by kernel_rfl
theorem row70 : RowTy Tryz.prog 138 50 1 := rowTy_of Tryz.underlying138 info70 rfl (by omega) (by omega)
def SetAt (wr : World) (base : Nat) (vA u : Value) (m : List Bool) : Prop := ∃ g, u = .slice (some ⟨g, 0, none⟩) m.length m.length ∧ base ≤ g ∧ Blk wr g 4 (m.map Value.bool).toArray ∧ vA.ownBlock ≠ some g
structure SbM (w0 wr : World) (g2 g4 g6 : Nat) (cs : Array Value) (vN vA vS : Value) (all : List (List Bool)) (t : List (List Nat)) (as' : List Bool) (us ws : List Value) (N : Nat → Prop) : Prop where
 below : Below w0.heap.size w0 wr
 b2 : Blk wr g2 28 cs
 b4 : Blk wr g4 77 #[sn0, sn0]
 b6 : Blk wr g6 77 #[vN, vA]
 sets : wr.ownsRow w0.heap.size 50 1 vS all.length us
 setR : F2 (fun u m => SetAt wr w0.heap.size vA u m) us all
 acc : wr.ownsRow w0.heap.size 4 1 vA as'.length (as'.map Value.bool)
 nxt : wr.ownsRow w0.heap.size 22 1 vN t.length ws
 nxtR : RowsI wr w0.heap.size N ws (t.map natL)
 ne : g4 ≠ g6
 ge : w0.heap.size ≤ g2 ∧ w0.heap.size ≤ g4 ∧ w0.heap.size ≤ g6
theorem SetAt.kept {wr w' : World} {base : Nat} {vA vA' u : Value} {m : List Bool} {X : Nat → Prop} (h : SetAt wr base vA u m) (hk : Kept wr w' X) (hX : ∀ g cs, X g → Blk wr g 4 cs → vA.ownBlock ≠ some g → False) (hA : ∀ g, g < wr.heap.size → vA.ownBlock ≠ some g → vA'.ownBlock ≠ some g) : SetAt w' base vA' u m := by
 obtain ⟨g, h1, h2, h3, h4⟩ := h
 exact ⟨g, h1, h2, h3.kept hk (fun x => hX g _ x h3 h4), hA g h3.lt h4⟩
section
variable {w0 wr w' : World} {g2 g4 g6 : Nat} {cs : Array Value} {vN vA vS : Value} {all : List (List Bool)} {t : List (List Nat)} {as' : List Bool} {us ws : List Value} {N : Nat → Prop}
theorem SbM.keep (h : SbM w0 wr g2 g4 g6 cs vN vA vS all t as' us ws N) (hb : Below wr.heap.size wr w') : SbM w0 w' g2 g4 g6 cs vN vA vS all t as' us ws N :=
 ⟨h.below.trans (hb.mono h.below.size), h.b2.below hb, h.b4.below hb, h.b6.below hb, own_below h.sets hb, h.setR.imp fun _ _ hs => hs.kept (Kept.of_below hb (fun _ => False)) (fun _ _ x => x.elim) (fun _ _ x => x), own_below h.acc hb, own_below h.nxt hb,
  h.nxtR.keep (Kept.of_below hb (fun _ => False)) (fun _ _ _ e => e.elim) (fun _ _ x => x) (Nat.le_refl _), h.ne, h.ge⟩
theorem SbM.weak {N' : Nat → Prop} (h : SbM w0 wr g2 g4 g6 cs vN vA vS all t as' us ws N) (hN : ∀ g, g < wr.heap.size → N g → N' g) : SbM w0 wr g2 g4 g6 cs vN vA vS all t as' us ws N' :=
 ⟨h.below, h.b2, h.b4, h.b6, h.sets, h.setR, h.acc, h.nxt, h.nxtR.keep (Kept.refl wr (fun _ => False)) (fun _ _ _ e => e.elim) hN (Nat.le_refl _), h.ne, h.ge⟩
theorem SbM.at (h : SbM w0 wr g2 g4 g6 cs vN vA vS all t as' us ws N) {k : Nat} {m : List Bool} (hk : all[k]? = some m) : ∃ gS c gm, vS = .slice (some ⟨gS, 0, none⟩) all.length c ∧ wr.cell? ⟨gS, k, none⟩ = some (.slice (some ⟨gm, 0, none⟩) m.length m.length) ∧ Marks wr wr.heap.size (.slice (some ⟨gm, 0, none⟩) m.length m.length) m := by
 obtain ⟨u, hu, g, e, h2, h3, h4⟩ := F2.at h.setR hk
 obtain ⟨gS, c, e1, e2⟩ := own_get h.sets hu
 exact ⟨gS, c, g, e1, by rw [e2, e], g, h3.lt, rfl, h3⟩
theorem SbM.row {v : Value} {n : Nat} {xs : List Value} (h : SbM w0 wr g2 g4 g6 cs vN vA vS all t as' us ws N) (hr : wr.ownsRow w0.heap.size 3 1 v n xs) (hN : ∀ g, N g → v.ownBlock ≠ some g) (hk : Kept wr w' (fun k => v.ownBlock = some k)) : SbM w0 w' g2 g4 g6 cs vN vA vS all t as' us ws N := by
 have hty : ∀ {e : TypeId}, e ≠ 3 → ∀ g cs, v.ownBlock = some g → ¬ Blk wr g e cs := fun h1 g cs e1 hB => own_blk_ne hr hB (fun hh => h1 hh.symm) e1
 exact ⟨h.below.trans (hk.below h.below.size fun b hb e => by have := own_base hr e; omega), h.b2.kept hk fun x => hty (by decide) _ _ x h.b2, h.b4.kept hk fun x => hty (by decide) _ _ x h.b4, h.b6.kept hk fun x => hty (by decide) _ _ x h.b6,
  own_ty hk h.sets (hty (by decide)), h.setR.imp fun _ _ hs => hs.kept hk (fun g cs x hB _ => hty (by decide) g cs x hB) (fun _ _ x => x), own_ty hk h.acc (hty (by decide)), own_ty hk h.nxt (hty (by decide)), h.nxtR.keep hk (fun g cs hn x _ => hN g hn x) (fun _ _ x => x) (Nat.le_refl _), h.ne, h.ge⟩
theorem SbM.addS {m : List Bool} {u vS' : Value} (h : SbM w0 wr g2 g4 g6 cs vN vA vS all t as' us ws N) (hu : SetAt wr w0.heap.size vA u m) (hk : Kept wr w' (fun k => vS.ownBlock = some k)) (ho : w'.ownsRow w0.heap.size 50 1 vS' (all.length + 1) (us ++ [u])) :
  SbM w0 w' g2 g4 g6 cs vN vA vS' (all ++ [m]) t as' (us ++ [u]) ws N := by
 have hty : ∀ {e : TypeId}, e ≠ 50 → ∀ g cs, vS.ownBlock = some g → ¬ Blk wr g e cs := fun h1 g cs e1 hB => own_blk_ne h.sets hB (fun hh => h1 hh.symm) e1
 have hset : ∀ {u m}, SetAt wr w0.heap.size vA u m → SetAt w' w0.heap.size vA u m := fun hs => hs.kept hk (fun g cs x hB _ => hty (by decide) g cs x hB) (fun _ _ x => x)
 refine ⟨h.below.trans (hk.below h.below.size fun b hb e => by have := own_base h.sets e; omega), h.b2.kept hk fun x => hty (by decide) _ _ x h.b2, h.b4.kept hk fun x => hty (by decide) _ _ x h.b4, h.b6.kept hk fun x => hty (by decide) _ _ x h.b6,
  by rw [List.length_append]; exact ho, F2.snoc (h.setR.imp fun _ _ hs => hset hs) (hset hu), own_ty hk h.acc (hty (by decide)), own_ty hk h.nxt (hty (by decide)), h.nxtR.keep hk (fun g cs _ x => hty (by decide) g cs x) (fun _ _ x => x) (Nat.le_refl _), h.ne, h.ge⟩
theorem SbM.addR {row : List Nat} {v vN' : Value} {w1 : World} (h : SbM w0 wr g2 g4 g6 cs vN vA vS all t as' us ws N) (hr : wr.ownsRow w0.heap.size 3 1 v row.length ((natL row).map (Value.int .i64)))
  (hk1 : Kept wr w1 (fun k => vN.ownBlock = some k)) (ho : w1.ownsRow w0.heap.size 22 1 vN' (t.length + 1) (ws ++ [v])) :
  SbM w0 (w1.setCell ⟨g6, 0, none⟩ vN') g2 g4 g6 cs vN' vA vS all (t ++ [row]) as' us (ws ++ [v]) (fun _ => True) := by
 have n6 := h.b6.kept hk1 (own_blk_ne h.nxt h.b6 (by decide))
 have hk2 := (Kept.refl w1 (fun k => k = g6)).setCell (p := ⟨g6, 0, none⟩) (fun _ => rfl) vN'
 have hall : Kept wr (w1.setCell ⟨g6, 0, none⟩ vN') (fun k => vN.ownBlock = some k ∨ k = g6) := (hk1.mono fun _ _ e => .inl e).trans hk2 fun _ _ e => .inr e
 have hty : ∀ {e : TypeId}, e ≠ 22 → e ≠ 77 → ∀ g cs, (vN.ownBlock = some g ∨ g = g6) → ¬ Blk wr g e cs := by
  rintro e h1 h2 g cs (e1 | e1) hB
  ·exact own_blk_ne h.nxt hB (fun hh => h1 hh.symm) e1
  ·exact hB.ne_ h.b6 h2 e1
 refine ⟨h.below.trans (hall.below h.below.size ?_), h.b2.kept hall fun x => hty (by decide) (by decide) _ _ x h.b2, h.b4.kept hall ?_, n6.set_ 0 vN', own_ty hall h.sets (hty (by decide) (by decide)), h.setR.imp fun _ _ hs => hs.kept hall (fun g cs x hB _ => hty (by decide) (by decide) g cs x hB) (fun _ _ x => x), own_ty hall h.acc (hty (by decide) (by decide)), ?_, ?_, h.ne, h.ge⟩
 ·rintro b hb (e | e)
  ·have := own_base h.nxt e; omega
  ·have := h.ge; omega
 ·rintro (e | e)
  ·exact own_blk_ne h.nxt h.b4 (by decide) e
  ·exact h.ne e
 ·rw [List.length_append]
  exact own_ty hk2 ho (fun g cs e hB => by subst e; exact hB.ne_ n6 (by decide) rfl)
 ·rw [List.map_append]
  refine RowsI.snoc (h.nxtR.keep hall (fun g cs _ e => hty (by decide) (by decide) g cs e) (fun _ _ _ => trivial) (Nat.le_refl _)) ?_ (fun _ _ => trivial)
  have := own_ty hall hr (hty (by decide) (by decide))
  have el : (natL row).length = row.length := by simp [natL]
  rw [el]
  exact this
theorem SbM.addA {b : Bool} {vA' : Value} {w1 : World} (h : SbM w0 wr g2 g4 g6 cs vN vA vS all t as' us ws N) (hk1 : Kept wr w1 (fun k => vA.ownBlock = some k)) (ho : w1.ownsRow w0.heap.size 4 1 vA' (as'.length + 1) (as'.map Value.bool ++ [.bool b])) (hmv : Moved wr vA vA') :
  SbM w0 (w1.setCell ⟨g6, 1, none⟩ vA') g2 g4 g6 cs vN vA' vS all t (as' ++ [b]) us ws N := by
 have n6 := h.b6.kept hk1 (own_blk_ne h.acc h.b6 (by decide))
 have hk2 := (Kept.refl w1 (fun k => k = g6)).setCell (p := ⟨g6, 1, none⟩) (fun _ => rfl) vA'
 have hall : Kept wr (w1.setCell ⟨g6, 1, none⟩ vA') (fun k => vA.ownBlock = some k ∨ k = g6) := (hk1.mono fun _ _ e => .inl e).trans hk2 fun _ _ e => .inr e
 have hty : ∀ {e : TypeId}, e ≠ 4 → e ≠ 77 → ∀ g cs, (vA.ownBlock = some g ∨ g = g6) → ¬ Blk wr g e cs := by
  rintro e h1 h2 g cs (e1 | e1) hB
  ·exact own_blk_ne h.acc hB (fun hh => h1 hh.symm) e1
  ·exact hB.ne_ h.b6 h2 e1
 refine ⟨h.below.trans (hall.below h.below.size ?_), h.b2.kept hall fun x => hty (by decide) (by decide) _ _ x h.b2, h.b4.kept hall ?_, n6.set_ 1 vA', own_ty hall h.sets (hty (by decide) (by decide)), h.setR.imp fun _ _ hs => hs.kept hall ?_ ?_, ?_, own_ty hall h.nxt (hty (by decide) (by decide)), h.nxtR.keep hall (fun g cs _ e => hty (by decide) (by decide) g cs e) (fun _ _ x => x) (Nat.le_refl _), h.ne, h.ge⟩
 ·rintro b hb (e | e)
  ·have := own_base h.acc e; omega
  ·have := h.ge; omega
 ·rintro (e | e)
  ·exact own_blk_ne h.acc h.b4 (by decide) e
  ·exact h.ne e
 ·rintro g cs (e | e) hB hne
  ·exact hne e
  ·exact hB.ne_ h.b6 (by decide) e
 ·intro g hg hne e
  rcases hmv with hh | ⟨g', hh, hlt⟩
  ·exact hne (by rw [← hh]; exact e)
  ·rw [e] at hh
   have := Option.some.inj hh
   omega
 ·rw [List.length_append, List.map_append]
  exact own_ty hk2 ho (fun g cs e hB => by subst e; exact hB.ne_ n6 (by decide) rfl)
theorem SbM.fin {wF : World} (h : SbM w0 wr g2 g4 g6 cs vN vA vS all t as' us ws N) (hk : Kept wr wF (fun k => k = g4 ∨ k < w0.heap.size)) : OwnDF wF w0.heap.size (.agg #[vN, vA]) t as' := by
 have hge := h.ge
 have hx : ∀ {e : TypeId} {v : Value} {n : Nat} {xs : List Value}, e ≠ 77 → wr.ownsRow w0.heap.size e 1 v n xs → wF.ownsRow w0.heap.size e 1 v n xs := fun he ho => hk.ownsRow ho fun g hg e => by
  rcases e with e | e
  ·exact own_blk_ne ho h.b4 he (by rw [hg, e])
  ·have := own_base ho hg; omega
 exact ⟨vN, vA, ws, rfl, hx (by decide) h.acc, hx (by decide) h.nxt, h.nxtR.imp fun v d hh => ⟨hx (by decide) hh.1, fun _ _ => trivial⟩⟩
end
theorem sb_k {w0 w : World} {g2 g4 g6 S cS : Nat} {cs : Array Value} {vN vA vT : Value} {AS : Option Addr} {all : List (List Bool)} {t : List (List Nat)} {as' : List Bool} {us ws : List Value} {N : Nat → Prop} {m : List Bool}
  (hM : SbM w0 w g2 g4 g6 cs vN vA (.slice AS all.length cS) all t as' us ws N) (hT : Marks w w.heap.size vT m) (hS : S ≤ 200000) (hl : ∀ x ∈ all, x.length = S) (hm : m.length = S) (hal : all.length ≤ 200000)
  {u0 u1 u2 u3 u4 u5 u6 u8 u9 u10 u13 u14 u15 u16 u17 u18 u19 u20 u21 u22 u23 u24 u25 u26 u27 u28 u29 u30 u31 u32 u33 u34 u35 u36 u37 u38 u39 u40 u41 u42 u43 u44 u45 u46 u47 u48 u49 u50 u51 u52 u53 u54 u55 u56 u57 u58 u59 u60 u61 u62 u63 u64 u65 u66 u67 u68 u69 u70 u71 u72 u73 u74 u75 u76 u77 u78 u79 u80 u81 u82 u83 u84 u85 u86 u87 u88 u89 u90 u91 u92 u93 u94 u95 u96 u97 u98 u99 u100 : Value}
  {Q : Exit → Act → World → Prop}
  (hQ : ∀ (x47 x48 x49 x50 x51 x52 x53 x54 x55 x56 x57 x58 x59 x60 x61 : Value) (w' : World) (k : Nat), Below w.heap.size w w' → k ≤ all.length → (∀ p, p < k → all[p]? ≠ some m) → (∀ x, all[k]? = some x → x = m) →
   Q (.exit 4) ⟨List.toArray (u0 :: u1 :: u2 :: u3 :: u4 :: u5 :: u6 :: (.slice AS all.length cS) :: u8 :: u9 :: u10 :: vT :: (.int .i64 k) :: u13 :: u14 :: u15 :: u16 :: u17 :: u18 :: u19 :: u20 :: u21 :: u22 :: u23 :: u24 :: u25 :: u26 :: u27 :: u28 :: u29 :: u30 :: u31 :: u32 :: u33 ::
   u34 :: u35 :: u36 :: u37 :: u38 :: u39 :: u40 :: u41 :: u42 :: u43 :: u44 :: u45 :: u46 :: x47 :: x48 :: x49 :: x50 :: x51 :: x52 :: x53 :: x54 :: x55 :: x56 :: x57 :: x58 :: x59 :: x60 :: x61 :: u62 :: u63 :: u64 :: u65 :: u66 :: u67 :: u68 :: u69 :: u70 ::
   u71 :: u72 :: u73 :: u74 :: u75 :: u76 :: u77 :: u78 :: u79 :: u80 :: u81 :: u82 :: u83 :: u84 :: u85 :: u86 :: u87 :: u88 :: u89 :: u90 :: u91 :: u92 :: u93 :: u94 :: u95 :: u96 :: u97 :: u98 :: u99 :: u100 :: []), []⟩ w') :
  (Code.loop (loopBody Tryz.f60 2)).wp Tryz.prog Q ⟨List.toArray (u0 :: u1 :: u2 :: u3 :: u4 :: u5 :: u6 :: (.slice AS all.length cS) :: u8 :: u9 :: u10 :: vT :: (.int .i64 0) :: u13 :: u14 :: u15 :: u16 :: u17 :: u18 :: u19 :: u20 :: u21 :: u22 :: u23 :: u24 :: u25 :: u26 :: u27 :: u28 :: u29 :: u30 :: u31 :: u32 :: u33 ::
   u34 :: u35 :: u36 :: u37 :: u38 :: u39 :: u40 :: u41 :: u42 :: u43 :: u44 :: u45 :: u46 :: u47 :: u48 :: u49 :: u50 :: u51 :: u52 :: u53 :: u54 :: u55 :: u56 :: u57 :: u58 :: u59 :: u60 :: u61 :: u62 :: u63 :: u64 :: u65 :: u66 :: u67 :: u68 :: u69 :: u70 ::
   u71 :: u72 :: u73 :: u74 :: u75 :: u76 :: u77 :: u78 :: u79 :: u80 :: u81 :: u82 :: u83 :: u84 :: u85 :: u86 :: u87 :: u88 :: u89 :: u90 :: u91 :: u92 :: u93 :: u94 :: u95 :: u96 :: u97 :: u98 :: u99 :: u100 :: []), []⟩ w := by
 conv => arg 2; arg 1; whnf
 have hMH := hide hM
 have hTH := hide hT
 obtain ⟨gT, hgT, rfl, hBT⟩ := hT
 have hlH := hide hl
 have hmH := hide hm
 obtain ⟨n, hn⟩ : ∃ n, n = all.length := ⟨_, rfl⟩
 have hnH := hide hn
 rw [hm] at hTH ⊢
 simp only [hm] at hQ
 rw [← hn] at hal ⊢
 simp only [← hn] at hQ
 clear hM hl hm hn hBT hgT
 go_loopw [12] (fun kk wr => ∃ (k : Nat), kk = .int .i64 (k : Int) ∧ k ≤ n ∧ Below w.heap.size w wr ∧ Hid (∀ p, p < k → all[p]? ≠ some m)) (fun kk _ => n - (intOf kk).toNat)
 case atStart => exact ⟨0, rfl, Nat.zero_le _, Below.refl _ _, fun p h => absurd h (by omega)⟩
 case round =>
  obtain ⟨k, rfl, hk, hBr, hE⟩ := hrel
  by_cases hlt : k < n
  ·obtain ⟨x, hx⟩ := get_lt (l := all) (i := k) (by rw [← hnH.out]; exact hlt)
   obtain ⟨gS, c, gm, e1, e2, e3⟩ := (hMH.out.keep hBr).at hx
   injection e1 with e1 e11 e12
   subst e1 e12
   have hxl := hlH.out x (List.mem_of_getElem? hx)
   rw [hxl] at e2 e3
   have hcall := sameMarks_any e3 (hTH.out.keep hBr hBr.size) hxl hmH.out (by omega)
   have hBrH := hide hBr
   have hxH := hide hx
   clear hBr hx e3 e11 hxl
   by_cases e : x = m
   ·rw [decide_eq_true e] at hcall
    have heH := hide e
    clear e
    go_wp2_with (go_at_call 88; refine Calls.ret hcall ?_; rintro r w4 ⟨rfl, hb4⟩; have hb44 := hide (hBrH.out.trans (hb4.mono hBrH.out.size)); clear hb4)
    refine hQ _ _ _ _ _ _ _ _ _ _ _ _ _ _ _ w4 k hb44.out hk hE.out (fun y hy => ?_)
    rw [hxH.out] at hy
    exact (Option.some.inj hy).symm.trans heH.out
   ·rw [decide_eq_false e] at hcall
    have heH := hide e
    clear e
    go_wp2_with (go_at_call 88; refine Calls.ret hcall ?_; rintro r w4 ⟨rfl, hb4⟩; have hb44 := hide (hBrH.out.trans (hb4.mono hBrH.out.size)); clear hb4)
    refine ⟨⟨k + 1, by go_num, by omega, hb44.out, fun p hp => ?_⟩, by simp [intOf]; omega⟩
    by_cases e2 : p = k
    ·subst e2
     rw [hxH.out]
     exact fun h => heH.out (Option.some.inj h)
    ·exact hE.out p (by omega)
  ·obtain rfl : k = n := by omega
   have hBrH := hide hBr
   clear hBr
   go_wp2_with fail
   refine hQ _ _ _ _ _ _ _ _ _ _ _ _ _ _ _ wr k hBrH.out (Nat.le_refl _) hE.out (fun y hy => ?_)
   have := lt_of_get hy
   have := hnH.out
   omega
end Go.Proofs.YtakpmdmjbgipiaaGreatDoor
namespace Go.Proofs.YtakpmdmjbgipiaaGreatDoor
open Go.RowKit
set_option maxHeartbeats 16000000
set_option maxRecDepth 100000
theorem rowL_le2 {S : Type} [DecidableEq S] (δ : S → Nat → S) (s : S) (l : List S) : ∀ k, (rowL δ s l k).length ≤ l.length + k
 | 0 => Nat.le_refl _
 | k + 1 => by
  have ih := rowL_le2 δ s l k
  rw [rowL_succ]
  unfold meetL
  split
  ·omega
  ·rw [List.length_append, List.length_singleton]; omega
def rowQ {S : Type} [DecidableEq S] (δ : S → Nat → S) (all : List S) (m : S) (x : Nat) : List Nat := (List.range x).map fun y => posL all (δ m y)
theorem rowQ_len {S : Type} [DecidableEq S] (δ : S → Nat → S) (all : List S) (m : S) (x : Nat) : (rowQ δ all m x).length = x := by simp [rowQ]
theorem rowQ_succ {S : Type} [DecidableEq S] (δ : S → Nat → S) (all : List S) (m : S) (x : Nat) : rowQ δ (rowL δ m all (x + 1)) m (x + 1) = rowQ δ (rowL δ m all x) m x ++ [posL (rowL δ m all (x + 1)) (δ m x)] := by
 unfold rowQ
 rw [List.range_succ, List.map_append]
 congr 1
 exact List.map_congr_left fun y hy => posG_step (List.mem_range.1 hy)
theorem sb_x {w0 w : World} {g2 g4 g6 i cS l1 c1 l2 c2 l3 c3 : Nat} {st : Int} {A1 A2 A3 AS : Option Addr} {a : WA} {vN vA : Value} {all : List (List Bool)} {t : List (List Nat)} {as' : List Bool} {us ws : List Value} {mi : List Bool}
    (hM : SbM w0 w g2 g4 g6 #[.int .i64 (a.L : Int), .int .i64 st, .slice A1 l1 c1, .slice A2 l2 c2, .slice A3 l3 c3] vN vA (.slice AS all.length cS) all t as' us ws (fun _ => True)) (hWA : IsWA w0 w0.heap.size (.agg #[.int .i64 (a.L : Int), .int .i64 st, .slice A1 l1 c1, .slice A2 l2 c2, .slice A3 l3 c3]) a) (hin : a.In) (hS : 0 ≤ a.states ∧ a.states ≤ 200000) (hL : a.L ≤ 8)
    (hq : all[i]? = some mi) (hl : ∀ x ∈ all, x.length = a.n) (hal : all.length ≤ 100000)
    {u0 u1 u3 u4 u5 u6 u11 u12 u13 u14 u15 u16 u17 u18 u19 u20 u21 u22 u23 u24 u25 u26 u27 u28 u29 u30 u31 u32 u33 u34 u35 u36 u37 u38 u39 u40 u41 u42 u43 u44 u45 u46 u47 u48 u49 u50 u51 u52 u53 u54 u55 u56 u57 u58 u59 u60 u61 u62 u63 u64 u65 u66 u67 u68 u69 u70 u71 u72 u73 u74 u75 u76 u77 u78 u79 u80 u81 u82 u83 u84 u85 u86 u87 u88 u89 u90 u91 u92 u93 u94 u95 u96 u97 u98 u99 u100 : Value}
    {Q : Exit → Act → World → Prop} (hN : Reg.NoQ Q)
    (hQ : ∀ (x10 x11 x12 x34 x35 x36 x37 x38 x39 x40 x41 x42 x43 x44 x45 x46 x47 x48 x49 x50 x51 x52 x53 x54 x55 x56 x57 x58 x59 x60 x61 x62 x63 x64 x65 x66 x67 x68 x69 x70 x71 x72 x73 : Value) (w' : World) (vS' vR : Value) (all' : List (List Bool)) (us' : List Value), SbM w0 w' g2 g4 g6 #[.int .i64 (a.L : Int), .int .i64 st, .slice A1 l1 c1, .slice A2 l2 c2, .slice A3 l3 c3] vN vA vS' all' t as' us' ws (fun g => vR.ownBlock ≠ some g) → w'.ownsRow w0.heap.size 3 1 vR a.L ((natL (rowQ a.nf.after all' mi a.L)).map (Value.int .i64)) → all' = rowL a.nf.after mi all a.L → (∀ x ∈ all', x.length = a.n) →
      Q (.exit 2) ⟨List.toArray (u0 :: u1 :: (.pointer (some ⟨g2, 0, none⟩)) :: u3 :: u4 :: u5 :: u6 :: vS' :: (.int .i64 i) :: vR :: x10 :: x11 :: x12 :: u13 :: u14 :: u15 :: u16 :: u17 :: u18 :: u19 :: u20 :: u21 :: u22 :: u23 :: u24 :: u25 :: u26 :: u27 :: u28 :: u29 :: u30 :: u31 :: u32 ::
      u33 :: x34 :: x35 :: x36 :: x37 :: x38 :: x39 :: x40 :: x41 :: x42 :: x43 :: x44 :: x45 :: x46 :: x47 :: x48 :: x49 :: x50 :: x51 :: x52 :: x53 :: x54 :: x55 :: x56 :: x57 :: x58 :: x59 :: x60 :: x61 :: x62 :: x63 :: x64 :: x65 :: x66 :: x67 :: x68 :: x69 ::
      x70 :: x71 :: x72 :: x73 :: u74 :: u75 :: u76 :: u77 :: u78 :: u79 :: u80 :: u81 :: u82 :: u83 :: u84 :: u85 :: u86 :: u87 :: u88 :: u89 :: u90 :: u91 :: u92 :: u93 :: u94 :: u95 :: u96 :: u97 :: u98 :: u99 :: u100 :: []), []⟩ w') :
    (Code.loop (loopBody Tryz.f60 1)).wp Tryz.prog Q ⟨List.toArray (u0 :: u1 :: (.pointer (some ⟨g2, 0, none⟩)) :: u3 :: u4 :: u5 :: u6 :: (.slice AS all.length cS) :: (.int .i64 i) :: (.slice none 0 0) :: (.int .i64 0) :: u11 :: u12 :: u13 :: u14 :: u15 :: u16 :: u17 :: u18 :: u19 :: u20 :: u21 :: u22 :: u23 :: u24 :: u25 ::
      u26 :: u27 :: u28 :: u29 :: u30 :: u31 :: u32 :: u33 :: u34 :: u35 :: u36 :: u37 :: u38 :: u39 :: u40 :: u41 :: u42 :: u43 :: u44 :: u45 :: u46 :: u47 :: u48 :: u49 :: u50 :: u51 :: u52 :: u53 :: u54 :: u55 :: u56 :: u57 :: u58 :: u59 :: u60 :: u61 :: u62 ::
      u63 :: u64 :: u65 :: u66 :: u67 :: u68 :: u69 :: u70 :: u71 :: u72 :: u73 :: u74 :: u75 :: u76 :: u77 :: u78 :: u79 :: u80 :: u81 :: u82 :: u83 :: u84 :: u85 :: u86 :: u87 :: u88 :: u89 :: u90 :: u91 :: u92 :: u93 :: u94 :: u95 :: u96 :: u97 :: u98 :: u99 ::
      u100 :: []), []⟩ w := by
  conv => arg 2; arg 1; whnf
  have hMH := hide (hM.weak (N' := fun g => (Value.slice none 0 0).ownBlock ≠ some g) (fun g _ _ => by simp [Value.ownBlock]))
  have hWH := hide hWA
  have hinH := hide hin
  have hqH := hide hq
  have hlH := hide hl
  have hSH := hide hS
  have hn9 : a.n ≤ 200000 := by unfold WA.n; omega
  obtain ⟨L, hLe⟩ : ∃ L, L = a.L := ⟨_, rfl⟩
  have hLH := hide hLe
  rw [← hLe] at hL
  have hMH2 := hMH
  have hWH2 := hWH
  rw [← hLe] at hMH2 hWH2
  simp only [← hLe] at hQ
  clear hM hWA hin hq hl hS hMH hWH hLe
  go_loopw [7, 9, 10] (fun vv rr xx wr => ∃ (x : Nat) (all' : List (List Bool)) (us' : List Value), xx = .int .i64 (x : Int) ∧ x ≤ L ∧ Hid (SbM w0 wr g2 g4 g6 #[.int .i64 (L : Int), .int .i64 st, .slice A1 l1 c1, .slice A2 l2 c2, .slice A3 l3 c3] vN vA vv all' t as' us' ws (fun g => rr.ownBlock ≠ some g)) ∧ Hid (wr.ownsRow w0.heap.size 3 1 rr x ((natL (rowQ a.nf.after all' mi x)).map (Value.int .i64))) ∧ Hid (all' = rowL a.nf.after mi all x) ∧ Hid (∀ z ∈ all', z.length = a.n)) (fun _ _ xx _ => L - (intOf xx).toNat)
  case atStart => exact ⟨0, all, us, rfl, Nat.zero_le _, hMH2, hide own_nil, hide rfl, hlH⟩
  case round =>
    obtain ⟨x, all', us', rfl, hx, hI, hR, hk, hz⟩ := hrel
    obtain ⟨AS', cS', rfl⟩ := slice_of_own hI.out.sets
    obtain ⟨AR, cR, rfl⟩ := slice_of_own hR.out
    have hcb := hI.out.b2.cell
    by_cases hxL : x < L
    · have hq' : all'[i]? = some mi := by rw [hk.out]; exact prefix_get (rowL_pre _ _ _) hqH.out
      have hil := lt_of_get hq'
      have hlen : all'.length ≤ 100008 := by
        rw [hk.out]
        have := rowL_le2 a.nf.after mi all x
        omega
      have hId := hide (hI.out.keep (drewB wr))
      obtain ⟨gS, c, gm, e1, e2, e3⟩ := hI.out.at hq'
      injection e1 with e1 e11 e12
      subst e1 e12
      have hml := hz.out mi (List.mem_of_getElem? hq')
      have hmar : Marks wr.drew wr.drew.heap.size (.slice (some ⟨gm, 0, none⟩) mi.length mi.length) mi := e3.keep (drewB wr) (Nat.le_refl _)
      have h0d := hI.out.below.trans ((drewB wr).mono hI.out.below.size)
      have hcall := after_any (x := x) (hWH2.out.keep (w' := wr.drew) (fun p hp => h0d.cell hp) h0d.size) hinH.out hSH.out hmar hml (by rw [← hLH.out]; exact hxL)
      obtain ⟨n', hn'⟩ : ∃ n', n' = all'.length := ⟨_, rfl⟩
      rw [hml] at hcall e2
      rw [← hn'] at hlen hil ⊢
      have hnH := hide hn'
      obtain ⟨sn, hsn⟩ : ∃ sn, sn = a.n := ⟨_, rfl⟩
      have hsnH := hide hsn
      rw [← hsn] at hcall e2 hn9
      have hmlH := hide hml
      clear hq' e3 hmar h0d hn' e11 hsn hml
      go_wp2_with fail
      refine Reg.cP [0, 0, 0, 6, 14, 0, 63, 127] ?_ (by kernel_rfl) (by repeat (first | exact hN | refine Reg.NoQ.then ?_ | refine Reg.NoQ.inBlock ?_))
      go_wp2_with fail
      refine Calls.ret hcall ?_
      rintro vT w3 ⟨hb3, hMT, hfr⟩
      obtain ⟨gT, hgT, rfl, hBT⟩ := hMT
      have hfl : (a.nf.after mi x).length = sn := by rw [NF.after_len, a.nf_n, hsnH.out]
      have hgfr := hfr gT rfl
      have hI3 := hide (hId.out.keep hb3)
      have hR3 := hide (own_below hR.out ((drewB wr).trans hb3))
      have hsx : wr.heap.size ≤ gT := hgfr
      have hset : Hid (SetAt w3 w0.heap.size vA (.slice (some ⟨gT, 0, none⟩) (a.nf.after mi x).length (a.nf.after mi x).length) (a.nf.after mi x)) := ⟨gT, rfl, Nat.le_trans hI.out.below.size hsx, hBT, fun e => by have := own_lt hI.out.acc e; omega⟩
      have hMT := hide (show Marks w3 w3.heap.size (.slice (some ⟨gT, 0, none⟩) (a.nf.after mi x).length (a.nf.after mi x).length) (a.nf.after mi x) from ⟨gT, hBT.lt, rfl, hBT⟩)
      rw [hfl] at hMT hset ⊢
      have hflH := hide hfl
      clear hcall hb3 hfr hgT hBT hId hcb e2 hfl
      go_wp2_with fail
      rw [hnH.out]
      refine sb_k (S := sn) (m := a.nf.after mi x) hI3.out hMT.out hn9 (fun z hzz => by rw [hsnH.out]; exact hz.out z hzz) hflH.out (by rw [← hnH.out]; omega) ?_
      iterate 15 (intro _)
      intro w4 k hb4 hkm hno hyes
      have hI5 := hide (hI3.out.keep hb4)
      have hR5 := hide (own_below hR3.out hb4)
      have hset5 : Hid (SetAt w4 w0.heap.size vA (.slice (some ⟨gT, 0, none⟩) sn sn) (a.nf.after mi x)) := hset.out.kept (Kept.of_below hb4 (fun _ => False)) (fun _ _ x => x.elim) (fun _ _ x => x)
      have hnoH := hide hno
      have hyesH := hide hyes
      have hkm2 : k ≤ n' := by rw [hnH.out]; exact hkm
      have hrs := hide (rowQ_succ a.nf.after all mi x)
      clear hno hyes hkm hb4 hI3 hR3 hset hMT
      by_cases hkl : k < n'
      · obtain ⟨s, hs⟩ := get_lt (l := all') (i := k) (by rw [← hnH.out]; exact hkl)
        have hse := hyesH.out s hs
        subst hse
        have hmem := List.mem_of_getElem? hs
        have hpos : posL all' (a.nf.after mi x) = k := posL_first hs fun j hj => hnoH.out j hj
        have hne : ((k : Int) == (n' : Int)) = false := by simp; omega
        have hrow : Hid (all' = rowL a.nf.after mi all (x + 1)) := by
          show _ = _
          rw [rowL_succ, ← hk.out]
          unfold meetL
          rw [if_pos hmem]
        have hq2 : Hid (rowQ a.nf.after all' mi (x + 1) = rowQ a.nf.after all' mi x ++ [k]) := by
          show _ = _
          have h1 := hrs.out
          rw [← hrow.out, ← hk.out, hpos] at h1
          exact h1
        have hrr := hR5.out
        have hsz := hI5.out.below.size
        have hx1 : x + 1 ≤ 4000000 := by omega
        rw [← hnH.out]
        clear hs hpos hmem
        go_wp2_with (
          at_builtin
          refine wpList_app_new (w := w4) row3 rfl _ _ rfl w0.heap.size (.slice AR x cR) x _ rfl hrr [.int .i64 (k : Int)] 1 rfl rfl (by simp [Value.oneCell']) hx1 hsz ?_
          intro g' cap' w7 hown7 hk7 hmv7 hg7
          have hI7 := hide (((hI5.out.weak (N' := fun g => (Value.slice AR x cR).ownBlock ≠ some g ∧ g < w4.heap.size) (fun g hg h => ⟨h, hg⟩)).row hrr (fun g hg => hg.1) hk7).weak (N' := fun g => (Value.slice (some ⟨g', 0, none⟩) (x + 1) cap').ownBlock ≠ some g) (fun g _ hg e => by
            rcases hmv7 with hh | ⟨g'', hh, hlt⟩
            · exact hg.1 (by rw [← hh]; exact e)
            · rw [e] at hh
              have := Option.some.inj hh
              have := hg.2
              omega))
          have hO7 := hide hown7
          clear hown7 hk7 hmv7)
        refine ⟨⟨x + 1, all', us', by go_num, by omega, ?_, ?_, hrow, hz⟩, by simp [intOf]; omega⟩
        · have := hI7.out
          rw [← hnH.out] at this
          exact this
        · rw [hq2.out, natL_snoc, List.map_append]
          exact hO7.out
      · obtain rfl : k = n' := by omega
        have hnew : a.nf.after mi x ∉ all' := not_mem_first fun j hj => hnoH.out j (by rw [hnH.out]; exact hj)
        have heq : ((k : Int) == (k : Int)) = true := by simp
        have hrow : Hid (all' ++ [a.nf.after mi x] = rowL a.nf.after mi all (x + 1)) := by
          show _ = _
          rw [rowL_succ, ← hk.out]
          unfold meetL
          rw [if_neg hnew]
        have hpos : posL (all' ++ [a.nf.after mi x]) (a.nf.after mi x) = k := by
          rw [pos_new hnew, hnH.out]
        have hq2 : Hid (rowQ a.nf.after (all' ++ [a.nf.after mi x]) mi (x + 1) = rowQ a.nf.after all' mi x ++ [k]) := by
          show _ = _
          have h1 := hrs.out
          rw [← hrow.out, ← hk.out, hpos] at h1
          exact h1
        have hsets := hI5.out.sets
        rw [← hnH.out] at hsets
        have hrr := hR5.out
        have hsz := hI5.out.below.size
        have hx1 : x + 1 ≤ 4000000 := by omega
        have hk1 : k + 1 ≤ 4000000 := by omega
        rw [← hnH.out]
        clear hnew hpos
        go_wp2_with (
          at_builtin
          first
          | (refine wpList_app_new (w := w4) row70 rfl _ _ rfl w0.heap.size (.slice (some ⟨gS, 0, none⟩) k cS') k _ rfl hsets [.slice (some ⟨gT, 0, none⟩) sn sn] 1 rfl rfl (by simp [Value.oneCell']) hk1 hsz ?_
             intro g5 cap5 w5 hown5 hk5 hmv5 hg5
             have hI6 := hide (hI5.out.addS (vS' := .slice (some ⟨g5, 0, none⟩) (k + 1) cap5) hset5.out (by rw [← hnH.out]; exact hk5) (by rw [← hnH.out]; exact hown5))
             have hrr5 := own_ty hk5 hrr (fun g cs e hB => own_blk_ne hsets hB (by decide) e)
             have hsz5 := hI6.out.below.size
             clear hown5 hk5 hmv5 hg5)
          | (refine wpList_app_new (w := w5) row3 rfl _ _ rfl w0.heap.size (.slice AR x cR) x _ rfl hrr5 [.int .i64 (k : Int)] 1 rfl rfl (by simp [Value.oneCell']) hx1 hsz5 ?_
             intro g' cap' w7 hown7 hk7 hmv7 hg7
             have hI7 := hide (((hI6.out.weak (N' := fun g => (Value.slice AR x cR).ownBlock ≠ some g ∧ g < w5.heap.size) (fun g hg h => ⟨h, hg⟩)).row hrr5 (fun g hg => hg.1) hk7).weak (N' := fun g => (Value.slice (some ⟨g', 0, none⟩) (x + 1) cap').ownBlock ≠ some g) (fun g _ hg e => by
               rcases hmv7 with hh | ⟨g'', hh, hlt⟩
               · exact hg.1 (by rw [← hh]; exact e)
               · rw [e] at hh
                 have := Option.some.inj hh
                 have := hg.2
                 omega))
             have hO7 := hide hown7
             clear hown7 hk7 hmv7))
        refine ⟨⟨x + 1, all' ++ [a.nf.after mi x], _, by go_num, by omega, hI7, ?_, hrow, hide fun z hzz => ?_⟩, by simp [intOf]; omega⟩
        · show World.ownsRow _ _ _ _ _ _ _
          rw [hq2.out, natL_snoc, List.map_append]
          exact hO7.out
        · rcases List.mem_append.1 hzz with hzz | hzz
          · exact hz.out z hzz
          · rw [List.mem_singleton.1 hzz, hflH.out, hsnH.out]
    · obtain rfl : x = L := by omega
      have hR2 := hR.out
      rw [hLH.out] at hR2
      have hIo := hI.out
      go_wp2_with fail
      refine hQ _ _ _ _ _ _ _ _ _ _ _ _ _ _ _ _ _ _ _ _ _ _ _ _ _ _ _ _ _ _ _ _ _ _ _ _ _ _ _ _ _ _ _ wr _ _ all' us' hIo hR.out (by rw [hk.out, hLH.out]) hz.out
end Go.Proofs.YtakpmdmjbgipiaaGreatDoor
