/-
  Part MH of a proof.
-/
import Derived.Test.YtpmceapjnnkhjaaDoorPA
import Derived.Test.YtpmceapjnnkhjaaDoorMG
set_option maxHeartbeats 16000000
set_option maxRecDepth 100000
set_option linter.unusedVariables false
set_option linter.unusedSimpArgs false
namespace Go.Proofs.YtpmceapjnnkhjaaDoor
open Go.RowKit
set_option maxHeartbeats 16000000
set_option maxRecDepth 100000
structure CnM (w0 wr : World) (g6 gs L : Nat) (vO vC vE : Value) (st : List Nat) (as' : List Int) (es : List Edg) : Prop where
 below : Below w0.heap.size w0 wr
 b6 : Blk wr g6 25 #[.int .i64 (L : Int), .int .i64 0, .slice (some ⟨gs, 0, none⟩) 1 1, vC, vE]
 start : Blk wr gs 3 #[.int .i64 0]
 ord : wr.ownsRow w0.heap.size 3 1 vO st.length ((natL st).map (Value.int .i64))
 acc : wr.ownsRow w0.heap.size 3 1 vC as'.length (as'.map (Value.int .i64))
 eds : wr.ownsRow w0.heap.size 35 3 vE es.length (es.flatMap eC)
 sepC : vC.ownBlock ≠ some gs
 sepO : vO.ownBlock ≠ some gs
 sep : ∀ g, vO.ownBlock = some g → vC.ownBlock ≠ some g
 ge : w0.heap.size ≤ g6 ∧ w0.heap.size ≤ gs
section
variable {w0 wr w' : World} {g6 gs L : Nat} {vO vC vE : Value} {st : List Nat} {as' : List Int} {es : List Edg}
theorem CnM.keep (h : CnM w0 wr g6 gs L vO vC vE st as' es) (hb : Below wr.heap.size wr w') : CnM w0 w' g6 gs L vO vC vE st as' es :=
 ⟨h.below.trans (hb.mono h.below.size), h.b6.below hb, h.start.below hb, own_below h.ord hb, own_below h.acc hb, own_below h.eds hb, h.sepC, h.sepO, h.sep, h.ge⟩
theorem moved_ne {v v' : Value} {g : Nat} (hmv : Moved wr v v') (hg : g < wr.heap.size) (h : v.ownBlock ≠ some g) : v'.ownBlock ≠ some g := fun e => by
 rcases hmv with hh | ⟨g', hh, hlt⟩
 ·exact h (by rw [← hh]; exact e)
 ·rw [e] at hh
  have := Option.some.inj hh
  omega
theorem CnM.addO {s : Nat} {vO' : Value} {w1 : World} (h : CnM w0 wr g6 gs L vO vC vE st as' es) (hk1 : Kept wr w1 (fun k => vO.ownBlock = some k)) (ho : w1.ownsRow w0.heap.size 3 1 vO' (st.length + 1) ((natL st).map (Value.int .i64) ++ [.int .i64 (s : Int)])) (hmv : Moved wr vO vO') :
  CnM w0 w1 g6 gs L vO' vC vE (st ++ [s]) as' es := by
 have hty : ∀ {e : TypeId}, e ≠ 3 → ∀ g cs, vO.ownBlock = some g → ¬ Blk wr g e cs := fun h1 g cs e1 hB => own_blk_ne h.ord hB (fun hh => h1 hh.symm) e1
 refine ⟨h.below.trans (hk1.below h.below.size fun b hb e => by have := own_base h.ord e; omega), h.b6.kept hk1 fun x => hty (by decide) _ _ x h.b6, h.start.kept hk1 h.sepO, ?_, hk1.ownsRow h.acc fun g hg e => h.sep g e hg, own_ty hk1 h.eds (hty (by decide)), h.sepC, moved_ne hmv h.start.lt h.sepO, fun g hg hg' => ?_, h.ge⟩
 ·rw [List.length_append, natL_snoc, List.map_append]
  exact ho
 ·exact moved_ne hmv (own_lt h.acc hg') (fun e => h.sep g e hg') hg
theorem CnM.addA {q : Int} {vC' : Value} {w1 : World} (h : CnM w0 wr g6 gs L vO vC vE st as' es) (hk1 : Kept wr w1 (fun k => vC.ownBlock = some k)) (ho : w1.ownsRow w0.heap.size 3 1 vC' (as'.length + 1) (as'.map (Value.int .i64) ++ [.int .i64 q])) (hmv : Moved wr vC vC') :
  CnM w0 (w1.setCell ⟨g6, 3, none⟩ vC') g6 gs L vO vC' vE st (as' ++ [q]) es := by
 have n6 := h.b6.kept hk1 (own_blk_ne h.acc h.b6 (by decide))
 have hk2 := (Kept.refl w1 (fun k => k = g6)).setCell (p := ⟨g6, 3, none⟩) (fun _ => rfl) vC'
 have hall : Kept wr (w1.setCell ⟨g6, 3, none⟩ vC') (fun k => vC.ownBlock = some k ∨ k = g6) := (hk1.mono fun _ _ e => .inl e).trans hk2 fun _ _ e => .inr e
 have hty : ∀ {e : TypeId}, e ≠ 3 → e ≠ 25 → ∀ g cs, (vC.ownBlock = some g ∨ g = g6) → ¬ Blk wr g e cs := by
  rintro e h1 h2 g cs (e1 | e1) hB
  ·exact own_blk_ne h.acc hB (fun hh => h1 hh.symm) e1
  ·exact hB.ne_ h.b6 h2 e1
 have h6o : ∀ g, vO.ownBlock = some g → g ≠ g6 := fun g hg e => own_blk_ne h.ord h.b6 (by decide) (by rw [hg, e])
 refine ⟨h.below.trans (hall.below h.below.size ?_), n6.set_ 3 vC', h.start.kept hall ?_, hall.ownsRow h.ord ?_, ?_, own_ty hall h.eds (hty (by decide) (by decide)), moved_ne hmv h.start.lt h.sepC, h.sepO, fun g hg hg' => ?_, h.ge⟩
 ·rintro b hb (e | e)
  ·have := own_base h.acc e; omega
  ·have := h.ge; omega
 ·rintro (e | e)
  ·exact h.sepC e
  ·exact h.start.ne_ h.b6 (by decide) e
 ·rintro g hg (e | e)
  ·exact h.sep g hg e
  ·exact h6o g hg e
 ·rw [List.length_append, List.map_append]
  exact own_ty hk2 ho (fun g cs e hB => by subst e; exact hB.ne_ n6 (by decide) rfl)
 ·exact moved_ne hmv (own_lt h.ord hg) (h.sep g hg) hg'
theorem CnM.addE {d : Edg} {vE' : Value} {w1 : World} (h : CnM w0 wr g6 gs L vO vC vE st as' es) (hk1 : Kept wr w1 (fun k => vE.ownBlock = some k)) (ho : w1.ownsRow w0.heap.size 35 3 vE' (es.length + 1) (es.flatMap eC ++ eC d)) :
  CnM w0 (w1.setCell ⟨g6, 4, none⟩ vE') g6 gs L vO vC vE' st as' (es ++ [d]) := by
 have n6 := h.b6.kept hk1 (own_blk_ne h.eds h.b6 (by decide))
 have hk2 := (Kept.refl w1 (fun k => k = g6)).setCell (p := ⟨g6, 4, none⟩) (fun _ => rfl) vE'
 have hall : Kept wr (w1.setCell ⟨g6, 4, none⟩ vE') (fun k => vE.ownBlock = some k ∨ k = g6) := (hk1.mono fun _ _ e => .inl e).trans hk2 fun _ _ e => .inr e
 have hty : ∀ {e : TypeId}, e ≠ 35 → e ≠ 25 → ∀ g cs, (vE.ownBlock = some g ∨ g = g6) → ¬ Blk wr g e cs := by
  rintro e h1 h2 g cs (e1 | e1) hB
  ·exact own_blk_ne h.eds hB (fun hh => h1 hh.symm) e1
  ·exact hB.ne_ h.b6 h2 e1
 refine ⟨h.below.trans (hall.below h.below.size ?_), n6.set_ 4 vE', h.start.kept hall fun x => hty (by decide) (by decide) _ _ x h.start, own_ty hall h.ord (hty (by decide) (by decide)), own_ty hall h.acc (hty (by decide) (by decide)), ?_, h.sepC, h.sepO, h.sep, h.ge⟩
 ·rintro b hb (e | e)
  ·have := own_base h.eds e; omega
  ·have := h.ge; omega
 ·rw [List.length_append, List.flatMap_append]
  refine own_ty hk2 ?_ (fun g cs e hB => by subst e; exact hB.ne_ n6 (by decide) rfl)
  simpa using ho
theorem CnM.fin {wF : World} {N : Nat} (h : CnM w0 wr g6 gs L vO vC vE st as' es) (hk : Kept wr wF (fun k => k = g6 ∨ k < w0.heap.size)) (ha : as'.length ≤ 4000000) (he : es.length ≤ 4000000) :
  IsWA wF wF.heap.size (.agg #[.int .i64 (L : Int), .int .i64 (N : Int), .slice (some ⟨gs, 0, none⟩) 1 1, vC, vE]) ⟨(L : Int), (N : Int), [0], as', es⟩ := by
 have hge := h.ge
 have hA := hk.ownsRow h.acc fun g hg e => by
  rcases e with e | e
  ·exact own_blk_ne h.acc h.b6 (by decide) (by rw [hg, e])
  ·have := own_base h.acc hg; omega
 have hE := hk.ownsRow h.eds fun g hg e => by
  rcases e with e | e
  ·exact own_blk_ne h.eds h.b6 (by decide) (by rw [hg, e])
  ·have := own_base h.eds hg; omega
 have hS := h.start.kept hk fun e => by
  rcases e with e | e
  ·exact h.start.ne_ h.b6 (by decide) e
  ·omega
 obtain ⟨A2, c2, e2, h2⟩ := own_slI (B := wF.heap.size) hA rfl (Nat.le_refl _) (by omega)
 obtain ⟨A3, c3, e3, h3⟩ := own_slE (B := wF.heap.size) hE rfl (Nat.le_refl _) (by omega)
 obtain ⟨A1, c1, e1, h1⟩ := own_slI (B := wF.heap.size) (l := [0]) (base := 0) (own_of_blk (n := 1) hS (Nat.zero_le _) rfl (by omega)) rfl (Nat.le_refl _) (by omega)
 injection e1 with e1 _ e4
 subst e1
 exact ⟨_, 1, A2, c2, A3, c3, by rw [e2, e3]; rfl, h1, h2, h3, Nat.le_refl _⟩
end
theorem can_k {wB w : World} {n gc co to base : Nat} {Ao : Option Addr} {cl st : List Nat} (hC : NumsAt wB gc n cl) (hB : Below wB.heap.size wB w) (hO : w.ownsRow base 3 1 (.slice Ao st.length co) st.length ((natL st).map (Value.int .i64))) (hst : ∀ s ∈ st, s < n) (hto : to < n) (hn : n ≤ 200000) (hl : st.length ≤ 200000)
  {u0 u1 u2 u3 u4 u6 u8 u9 u12 u13 u14 u15 u16 u17 u18 u19 u20 u21 u22 u23 u24 u25 u26 u27 u28 u29 u30 u31 u32 u33 u34 u35 u36 u37 u38 u39 u40 u41 u42 u43 u44 u45 u46 u47 u48 u49 u50 u51 u52 u53 u54 u55 u56 u57 u58 u59 u60 u61 u62 u63 u64 u65 u66 u67 u68 u69 u70 u71 u72 u73 u74 u75 u76 u77 u78 u79 u80 u81 u82 u83 u84 u85 u86 u87 u88 u89 u90 u91 u92 u93 u94 u95 : Value}
  {Q : Exit → Act → World → Prop}
  (hQ : ∀ (x55 x56 x57 x58 x59 x60 x61 x62 x63 x64 x65 x66 x67 x68 x69 x70 x71 x72 x73 x74 : Value) (w' : World) (k : Nat), Below w.heap.size w w' → k ≤ st.length → (∀ p s, p < k → st[p]? = some s → cl.getD s 0 ≠ cl.getD to 0) → (∀ s, st[k]? = some s → cl.getD s 0 = cl.getD to 0) →
   Q (.exit 4) ⟨List.toArray (u0 :: u1 :: u2 :: u3 :: u4 :: (.slice (some ⟨gc, 0, none⟩) n n) :: u6 :: (.slice Ao st.length co) :: u8 :: u9 :: (.int .i64 to) :: (.int .i64 k) :: u12 :: u13 :: u14 :: u15 :: u16 :: u17 :: u18 :: u19 :: u20 :: u21 :: u22 :: u23 :: u24 :: u25 :: u26 :: u27 ::
   u28 :: u29 :: u30 :: u31 :: u32 :: u33 :: u34 :: u35 :: u36 :: u37 :: u38 :: u39 :: u40 :: u41 :: u42 :: u43 :: u44 :: u45 :: u46 :: u47 :: u48 :: u49 :: u50 :: u51 :: u52 :: u53 :: u54 :: x55 :: x56 :: x57 :: x58 :: x59 :: x60 :: x61 :: x62 :: x63 :: x64 ::
   x65 :: x66 :: x67 :: x68 :: x69 :: x70 :: x71 :: x72 :: x73 :: x74 :: u75 :: u76 :: u77 :: u78 :: u79 :: u80 :: u81 :: u82 :: u83 :: u84 :: u85 :: u86 :: u87 :: u88 :: u89 :: u90 :: u91 :: u92 :: u93 :: u94 :: u95 :: []), []⟩ w') :
  (Code.loop (loopBody Tryd.f70 2)).wp Tryd.prog Q ⟨List.toArray (u0 :: u1 :: u2 :: u3 :: u4 :: (.slice (some ⟨gc, 0, none⟩) n n) :: u6 :: (.slice Ao st.length co) :: u8 :: u9 :: (.int .i64 to) :: (.int .i64 0) :: u12 :: u13 :: u14 :: u15 :: u16 :: u17 :: u18 :: u19 :: u20 :: u21 :: u22 :: u23 :: u24 :: u25 :: u26 :: u27 ::
   u28 :: u29 :: u30 :: u31 :: u32 :: u33 :: u34 :: u35 :: u36 :: u37 :: u38 :: u39 :: u40 :: u41 :: u42 :: u43 :: u44 :: u45 :: u46 :: u47 :: u48 :: u49 :: u50 :: u51 :: u52 :: u53 :: u54 :: u55 :: u56 :: u57 :: u58 :: u59 :: u60 :: u61 :: u62 :: u63 :: u64 ::
   u65 :: u66 :: u67 :: u68 :: u69 :: u70 :: u71 :: u72 :: u73 :: u74 :: u75 :: u76 :: u77 :: u78 :: u79 :: u80 :: u81 :: u82 :: u83 :: u84 :: u85 :: u86 :: u87 :: u88 :: u89 :: u90 :: u91 :: u92 :: u93 :: u94 :: u95 :: []), []⟩ w := by
 conv => arg 2; arg 1; whnf
 obtain ⟨z, hz⟩ := get_lt (l := cl) (i := to) (by rw [hC.1]; exact hto)
 have hzg : Hid (cl.getD to 0 = z) := getD_some hz
 have hCH := hide hC
 have hcz := hide (hC.2.2 to z hz)
 have hOH := hide hO
 obtain ⟨m, hm⟩ : ∃ m, m = st.length := ⟨_, rfl⟩
 have hmH := hide hm
 have hBB := hide hB
 rw [← hm] at hl ⊢
 simp only [← hm] at hQ
 clear hC hz hO hB hm
 go_loopw [11] (fun kk wr => ∃ (k : Nat), kk = .int .i64 (k : Int) ∧ k ≤ m ∧ Below w.heap.size w wr ∧ Hid (∀ (p s : Nat), p < k → st[p]? = some s → cl.getD s 0 ≠ cl.getD to 0)) (fun kk _ => m - (intOf kk).toNat)
 case atStart => exact ⟨0, rfl, Nat.zero_le _, Below.refl _ _, fun p f h => absurd h (by omega)⟩
 case round =>
  obtain ⟨k, rfl, hk, hBr, hE⟩ := hrel
  have hst2 := hide (fun M => hBr.trans (((Kept.refl wr (fun _ => False)).drewN M).below hBr.size (fun _ _ h => h.elim)))
  by_cases hlt : k < m
  ·obtain ⟨s, hs⟩ := get_lt (l := st) (i := k) (by rw [← hmH.out]; exact hlt)
   have hsn := hst s (List.mem_of_getElem? hs)
   obtain ⟨gf, cf', hv, hcf⟩ := own_get (own_below hOH.out hBr) (map_get (f := Value.int .i64) (map_get (f := fun x : Nat => (x : Int)) hs))
   injection hv with hv hv2 hv3
   subst hv hv3
   obtain ⟨y, hy⟩ := get_lt (l := cl) (i := s) (by rw [hCH.out.1]; exact hsn)
   have hall := hBB.out.trans (hBr.mono hBB.out.size)
   have hcs : wr.cell? ⟨gc, s, none⟩ = some (.int .i64 (y : Int)) := (hall.cell (p := ⟨gc, s, none⟩) hCH.out.2.1).trans (hCH.out.2.2 s y hy)
   have hct : wr.cell? ⟨gc, to, none⟩ = some (.int .i64 (z : Int)) := (hall.cell (p := ⟨gc, to, none⟩) hCH.out.2.1).trans hcz.out
   have hyg : Hid (cl.getD s 0 = y) := getD_some hy
   have hsH := hide hs
   clear hs hy hall hBr hv2
   by_cases hyz : y = z
   ·have hI : (y : Int) = (z : Int) := by omega
    have hyzH := hide hyz
    clear hyz
    go_wp2_with fail
    go_quiet (fail)
    go_wp2_with fail
    refine hQ _ _ _ _ _ _ _ _ _ _ _ _ _ _ _ _ _ _ _ _ _ k (hst2.out _) hk hE.out (fun s' hs' => ?_)
    rw [hsH.out] at hs'
    injection hs' with hs'
    subst hs'
    rw [hyg.out, hzg.out, hyzH.out]
   ·have hI : ¬ (y : Int) = (z : Int) := by omega
    have hyzH := hide hyz
    clear hyz
    go_wp2_with fail
    go_quiet (fail)
    go_wp2_with fail
    refine ⟨⟨k + 1, by go_num, by omega, hst2.out _, fun p s' hp hs' => ?_⟩, by simp [intOf]; omega⟩
    by_cases e : p = k
    ·subst e
     rw [hsH.out] at hs'
     injection hs' with hs'
     subst hs'
     rw [hyg.out, hzg.out]
     exact hyzH.out
    ·exact hE.out p s' (by omega) hs'
  ·obtain rfl : k = m := by omega
   clear hBr
   go_wp2_with fail
   go_quiet (fail)
   go_wp2_with fail
   refine hQ _ _ _ _ _ _ _ _ _ _ _ _ _ _ _ _ _ _ _ _ _ k (hst2.out _) (Nat.le_refl _) hE.out (fun s' hs' => ?_)
   have := lt_of_get hs'
   have := hmH.out
   omega
end Go.Proofs.YtpmceapjnnkhjaaDoor
namespace Go.Proofs.YtpmceapjnnkhjaaDoor
open Go.RowKit
set_option maxHeartbeats 16000000
set_option maxRecDepth 100000
def kOf (cl st : List Nat) : List Nat := st.map fun s => cl.getD s 0
theorem kOf_snoc (cl st : List Nat) (s : Nat) : kOf cl (st ++ [s]) = kOf cl st ++ [cl.getD s 0] := by simp [kOf]
theorem kOf_get {cl st : List Nat} {k s : Nat} (h : st[k]? = some s) : (kOf cl st)[k]? = some (cl.getD s 0) := map_get (f := fun s => cl.getD s 0) h
theorem kOf_pre {cl st st' : List Nat} (h : st <+: st') : kOf cl st <+: kOf cl st' := by
 obtain ⟨u, rfl⟩ := h
 unfold kOf
 rw [List.map_append]
 exact List.prefix_append _ _
theorem kOf_old {cl st : List Nat} {k s z : Nat} (hs : st[k]? = some s) (hz : cl.getD s 0 = z) (hno : ∀ p s', p < k → st[p]? = some s' → cl.getD s' 0 ≠ z) : posL (kOf cl st) z = k ∧ z ∈ kOf cl st := by
 have h1 := kOf_get (cl := cl) hs
 rw [hz] at h1
 refine ⟨posL_first h1 fun j hj hc => ?_, List.mem_of_getElem? h1⟩
 unfold kOf at hc
 rw [List.getElem?_map] at hc
 rcases hj2 : st[j]? with _ | s'
 ·rw [hj2] at hc; cases hc
 ·rw [hj2] at hc
  exact hno j s' hj hj2 (by simpa using hc)
theorem kOf_new {cl st : List Nat} {z : Nat} (hno : ∀ p s', p < st.length → st[p]? = some s' → cl.getD s' 0 ≠ z) : z ∉ kOf cl st := fun hm => by
 obtain ⟨s', hs', e⟩ := List.mem_map.1 hm
 obtain ⟨j, hj⟩ := List.mem_iff_getElem?.1 hs'
 exact hno j s' (lt_of_get hj) hj e
structure CnX (w0 : World) (g2 gc L n : Nat) (vN vA : Value) (t : List (List Nat)) (ac : List Bool) (cl : List Nat) : Prop where
 tab : TabF w0 L n vN vA t ac
 b : Blk w0 g2 95 #[vN, vA]
 c : NumsAt w0 gc n cl
 w : ClsW L n (dnx t) (dac ac) cl
theorem CnX.lt {w0 : World} {g2 gc L n q x : Nat} {vN vA : Value} {t : List (List Nat)} {ac : List Bool} {cl : List Nat} (h : CnX w0 g2 gc L n vN vA t ac cl) (hq : q < n) (hx : x < L) : dnx t q x < n := by
 have h1 := h.tab.n
 have := h.tab.ok.lt (q := q) (by omega) hx
 omega
theorem CnX.st_len {w0 : World} {g2 gc L n : Nat} {vN vA : Value} {t : List (List Nat)} {ac : List Bool} {cl st : List Nat} (h : CnX w0 g2 gc L n vN vA t ac cl) (hn : (kOf cl st).Nodup) (hl : ∀ s ∈ st, s < n) : st.length ≤ n := by
 have := sub_len _ (List.range n) hn fun v hv => by
  obtain ⟨s, hs, rfl⟩ := List.mem_map.1 hv
  exact List.mem_range.2 (h.w.lt s (hl s hs))
 simpa [kOf] using this
theorem can_x {w0 w : World} {g2 gc g6 gs L n i q co : Nat} {Ao : Option Addr} {vN vA vC vE : Value} {t : List (List Nat)} {ac : List Bool} {cl st : List Nat} {as' : List Int} {es : List Edg} (hX : CnX w0 g2 gc L n vN vA t ac cl) (hn : n ≤ 200000) (hL : L ≤ 8)
    (hM : CnM w0 w g6 gs L (.slice Ao st.length co) vC vE st as' es) (hE : Exp L (clsNx (dnx t) cl) (cl.getD 0 0) i (kOf cl st)) (hq : st[i]? = some q) (hst : ∀ s ∈ st, s < n) (hes : es.length ≤ 2000000)
    {u0 u3 u4 u10 u11 u12 u13 u14 u15 u16 u17 u18 u19 u20 u21 u22 u23 u24 u25 u26 u27 u28 u29 u30 u31 u32 u33 u34 u35 u36 u37 u38 u39 u40 u41 u42 u43 u44 u45 u46 u47 u48 u49 u50 u51 u52 u53 u54 u55 u56 u57 u58 u59 u60 u61 u62 u63 u64 u65 u66 u67 u68 u69 u70 u71 u72 u73 u74 u75 u76 u77 u78 u79 u80 u81 u82 u83 u84 u85 u86 u87 u88 u89 u90 u91 u92 u93 u94 u95 : Value}
    {Q : Exit → Act → World → Prop} (hN : Reg.NoQ Q)
    (hQ : ∀ (x9 x10 x11 x39 x40 x41 x42 x43 x44 x45 x46 x47 x48 x49 x50 x51 x52 x53 x54 x55 x56 x57 x58 x59 x60 x61 x62 x63 x64 x65 x66 x67 x68 x69 x70 x71 x72 x73 x74 x75 x76 x77 x78 x79 x80 x81 x82 x83 x84 x85 x86 x87 x88 x89 x90 x91 : Value) (w' : World) (vO' vE' : Value) (st' : List Nat), CnM w0 w' g6 gs L vO' vC vE' st' as' (es ++ rowP (clsNx (dnx t) cl) (kOf cl st') (cl.getD q 0) i L) → kOf cl st' = rowL (clsNx (dnx t) cl) (cl.getD q 0) (kOf cl st) L → st <+: st' → (∀ s ∈ st', s < n) →
      Q (.exit 2) ⟨List.toArray (u0 :: (.int .i64 L) :: (.pointer (some ⟨g2, 0, none⟩)) :: u3 :: u4 :: (.slice (some ⟨gc, 0, none⟩) n n) :: (.pointer (some ⟨g6, 0, none⟩)) :: vO' :: (.int .i64 i) :: x9 :: x10 :: x11 :: u12 :: u13 :: u14 :: u15 :: u16 :: u17 :: u18 :: u19 :: u20 :: u21 :: u22 ::
      u23 :: u24 :: u25 :: u26 :: u27 :: u28 :: u29 :: u30 :: u31 :: u32 :: u33 :: u34 :: u35 :: u36 :: u37 :: u38 :: x39 :: x40 :: x41 :: x42 :: x43 :: x44 :: x45 :: x46 :: x47 :: x48 :: x49 :: x50 :: x51 :: x52 :: x53 :: x54 :: x55 :: x56 :: x57 :: x58 :: x59 ::
      x60 :: x61 :: x62 :: x63 :: x64 :: x65 :: x66 :: x67 :: x68 :: x69 :: x70 :: x71 :: x72 :: x73 :: x74 :: x75 :: x76 :: x77 :: x78 :: x79 :: x80 :: x81 :: x82 :: x83 :: x84 :: x85 :: x86 :: x87 :: x88 :: x89 :: x90 :: x91 :: u92 :: u93 :: u94 :: u95 :: []), []⟩ w') :
    (Code.loop (loopBody Tryd.f70 1)).wp Tryd.prog Q ⟨List.toArray (u0 :: (.int .i64 L) :: (.pointer (some ⟨g2, 0, none⟩)) :: u3 :: u4 :: (.slice (some ⟨gc, 0, none⟩) n n) :: (.pointer (some ⟨g6, 0, none⟩)) :: (.slice Ao st.length co) :: (.int .i64 i) :: (.int .i64 0) :: u10 :: u11 :: u12 :: u13 :: u14 :: u15 :: u16 :: u17 ::
      u18 :: u19 :: u20 :: u21 :: u22 :: u23 :: u24 :: u25 :: u26 :: u27 :: u28 :: u29 :: u30 :: u31 :: u32 :: u33 :: u34 :: u35 :: u36 :: u37 :: u38 :: u39 :: u40 :: u41 :: u42 :: u43 :: u44 :: u45 :: u46 :: u47 :: u48 :: u49 :: u50 :: u51 :: u52 :: u53 :: u54 ::
      u55 :: u56 :: u57 :: u58 :: u59 :: u60 :: u61 :: u62 :: u63 :: u64 :: u65 :: u66 :: u67 :: u68 :: u69 :: u70 :: u71 :: u72 :: u73 :: u74 :: u75 :: u76 :: u77 :: u78 :: u79 :: u80 :: u81 :: u82 :: u83 :: u84 :: u85 :: u86 :: u87 :: u88 :: u89 :: u90 :: u91 ::
      u92 :: u93 :: u94 :: u95 :: []), []⟩ w := by
  conv => arg 2; arg 1; whnf
  obtain ⟨bN, oN, cN, rfl, hbN, hrows⟩ := hX.tab.at
  obtain ⟨bA, oA, cA, rfl, -⟩ := hX.tab.mark
  have hrH := hide hrows
  have hMH := hide hM
  have hEH := hide hE
  have hXH := hide hX
  have hqn := hst q (List.mem_of_getElem? hq)
  have hqH := hide hq
  clear hrows hM hE hX hq
  go_loopw [7, 9] (fun vv xx wr => ∃ (x : Nat) (st' : List Nat) (vE' : Value), xx = .int .i64 (x : Int) ∧ x ≤ L ∧ Hid (CnM w0 wr g6 gs L vv vC vE' st' as' (es ++ rowP (clsNx (dnx t) cl) (kOf cl st') (cl.getD q 0) i x)) ∧ Hid (kOf cl st' = rowL (clsNx (dnx t) cl) (cl.getD q 0) (kOf cl st) x) ∧ Hid (st <+: st') ∧ Hid (∀ s ∈ st', s < n)) (fun _ xx _ => L - (intOf xx).toNat)
  case atStart => exact ⟨0, st, vE, rfl, Nat.zero_le _, by rw [rowP_zero, List.append_nil]; exact hMH, hide rfl, hide (List.prefix_refl _), hide hst⟩
  case round =>
    obtain ⟨x, st', vE', rfl, hx, hI, hk, hp, hl⟩ := hrel
    obtain ⟨Ao', co', rfl⟩ := slice_of_own hI.out.ord
    have hnd : (kOf cl st').Nodup := by rw [hk.out]; exact rowL_nodup _ hEH.out.inv.nodup _
    have hsl := hXH.out.st_len hnd hl.out
    clear hnd
    by_cases hxL : x < L
    · obtain ⟨A, c', hr1, hr2⟩ := hrH.out q hqn
      obtain ⟨b2, o2, rfl, hb2, hr3, hto⟩ := hr2 x hxL
      have hnx := hide (hXH.out.w.nxE (fun q x hq hx => hXH.out.lt hq hx) hqn hxL)
      obtain ⟨to, htoe⟩ : ∃ to, to = dnx t q x := ⟨_, rfl⟩
      rw [← htoe] at hr3 hto
      have htH := hide htoe
      have hcb := (hXH.out.b.below hI.out.below).cell
      have hq' := prefix_get hp.out hqH.out
      obtain ⟨gf, cf', hv, hcq⟩ := own_get hI.out.ord (map_get (f := Value.int .i64) (map_get (f := fun x : Nat => (x : Int)) hq'))
      injection hv with hv hv2 hv3
      subst hv hv3
      have hil := lt_of_get hq'
      have c1 := (hI.out.below.cell (p := ⟨bN, oN + q, none⟩) hbN).trans hr1
      have c2 := (hI.out.below.cell (p := ⟨b2, o2 + x, none⟩) hb2).trans hr3
      obtain ⟨m, hm⟩ : ∃ m, m = st'.length := ⟨_, rfl⟩
      rw [← hm] at hsl hil hI ⊢
      have hmH := hide hm
      have hId := hide (hI.out.keep (drewB wr))
      clear hr1 hr2 hr3 htoe hq' hm hv2
      go_wp2_with fail
      refine Reg.cP [0, 1, 0, 0, 12, 28, 63, 127, 0, 511, 1023, 2047] ?_ (by kernel_rfl) (by repeat (first | exact hN | refine Reg.NoQ.then ?_ | refine Reg.NoQ.inBlock ?_))
      go_wp2_with fail
      rw [hmH.out]
      have hId2 := hId
      rw [hmH.out] at hId2
      refine can_k hXH.out.c (hI.out.below.trans ((drewB wr).mono hI.out.below.size)) hId2.out.ord hl.out hto hn (by rw [← hmH.out]; omega) ?_
      iterate 20 (intro _)
      intro w3 k hb3 hkm hno hyes
      have hI3 := hide (hId2.out.keep hb3)
      have hnoH := hide hno
      have hyesH := hide hyes
      have hkm2 : k ≤ m := by rw [hmH.out]; exact hkm
      obtain ⟨AE, cE, rfl⟩ := slice_of_own hI3.out.eds
      have hel : Hid ((es ++ rowP (clsNx (dnx t) cl) (kOf cl st') (cl.getD q 0) i x).length = es.length + x) := by show _ = _; rw [List.length_append, rowP_len]
      clear hno hyes hkm hb3 hId hId2 c1 c2 hcb
      by_cases hkl : k < m
      · obtain ⟨s, hs⟩ := get_lt (l := st') (i := k) (by rw [← hmH.out]; exact hkl)
        obtain ⟨hpos, hmem⟩ := kOf_old hs (hyesH.out s hs) hnoH.out
        have hne : ((k : Int) == (m : Int)) = false := by simp; omega
        have hrow : Hid (kOf cl st' = rowL (clsNx (dnx t) cl) (cl.getD q 0) (kOf cl st) (x + 1)) := by
          show _ = _
          rw [rowL_succ, ← hk.out, hnx.out, ← htH.out]
          unfold meetL
          rw [if_pos hmem]
        have hedge : Hid (es ++ rowP (clsNx (dnx t) cl) (kOf cl st') (cl.getD q 0) i (x + 1) = (es ++ rowP (clsNx (dnx t) cl) (kOf cl st') (cl.getD q 0) i x) ++ [⟨(i : Int), (x : Int), (k : Int)⟩]) := by
          show _ = _
          have h1 := rowP_succ (δ := clsNx (dnx t) cl) (kOf cl st) (cl.getD q 0) i x
          rw [← hrow.out, ← hk.out, hnx.out, ← htH.out, hpos] at h1
          rw [h1, List.append_assoc]
        have hc6 := hI3.out.b6.cell
        have heds := hI3.out.eds
        obtain ⟨me, hme⟩ : ∃ me, me = (es ++ rowP (clsNx (dnx t) cl) (kOf cl st') (cl.getD q 0) i x).length := ⟨_, rfl⟩
        have hme1 : me + 1 ≤ 4000000 := by have := hel.out; omega
        rw [← hme] at hc6 heds
        have hsz := hI3.out.below.size
        have hmeH := hide hme
        rw [← hmH.out]
        clear hme hs hpos hmem
        go_wp2_with (
          at_builtin
          refine wpList_app_new (w := w3) row35 rfl _ _ rfl w0.heap.size (.slice AE me cE) me _ rfl heds [.int .i64 (i : Int), .int .i64 (x : Int), .int .i64 (k : Int)] 1 rfl rfl (by simp [Value.oneCell']) hme1 hsz ?_
          intro g' cap' w7 hown7 hk7 hmv7 hg7
          have hk7' := hk7
          rw [hmeH.out] at hk7'
          have hb67 := hI3.out.b6.kept hk7' (own_blk_ne hI3.out.eds hI3.out.b6 (by decide))
          have hc67 := hb67.cell
          have hf67 := hb67.frozen 4
          have hl67 := hb67.lt
          have hE7 := hide (hI3.out.addE (d := ⟨(i : Int), (x : Int), (k : Int)⟩) (vE' := .slice (some ⟨g', 0, none⟩) (me + 1) cap') hk7' (by rw [← hmeH.out]; exact hown7))
          clear hown7 hk7 hk7' hmv7 hb67)
        refine ⟨⟨x + 1, st', .slice (some ⟨g', 0, none⟩) (me + 1) cap', by go_num, by omega, ?_, hrow, hp, hl⟩, by simp [intOf]; omega⟩
        rw [hedge.out]
        have := hE7.out
        rw [← hmH.out] at this
        exact this
      · obtain rfl : k = m := by omega
        have hnew := kOf_new (cl := cl) (st := st') (z := cl.getD to 0) fun p s' hp hs' => hnoH.out p s' (by have := hmH.out; omega) hs'
        have heq : ((k : Int) == (k : Int)) = true := by simp
        have hsn : Hid (kOf cl (st' ++ [to]) = rowL (clsNx (dnx t) cl) (cl.getD q 0) (kOf cl st) (x + 1)) := by
          show _ = _
          rw [rowL_succ, ← hk.out, hnx.out, ← htH.out, kOf_snoc]
          unfold meetL
          rw [if_neg hnew]
        have hpos : posL (kOf cl (st' ++ [to])) (cl.getD to 0) = k := by
          rw [kOf_snoc, pos_new hnew]
          have := hmH.out
          simp [kOf]
          omega
        have hedge : Hid (es ++ rowP (clsNx (dnx t) cl) (kOf cl (st' ++ [to])) (cl.getD q 0) i (x + 1) = (es ++ rowP (clsNx (dnx t) cl) (kOf cl st') (cl.getD q 0) i x) ++ [⟨(i : Int), (x : Int), (k : Int)⟩]) := by
          show _ = _
          have h1 := rowP_succ (δ := clsNx (dnx t) cl) (kOf cl st) (cl.getD q 0) i x
          rw [← hsn.out, ← hk.out, hnx.out, ← htH.out, hpos] at h1
          rw [h1, List.append_assoc]
        have hord := hI3.out.ord
        obtain ⟨me, hme⟩ : ∃ me, me = (es ++ rowP (clsNx (dnx t) cl) (kOf cl st') (cl.getD q 0) i x).length := ⟨_, rfl⟩
        have hme1 : me + 1 ≤ 4000000 := by have := hel.out; omega
        have hmeH := hide hme
        rw [← hmH.out] at hord
        have hsz := hI3.out.below.size
        rw [← hmH.out]
        clear hme hnew hpos
        go_wp2_with (
          at_builtin
          first
          | (refine wpList_app_new (w := w3) row3 rfl _ _ rfl w0.heap.size (.slice (some ⟨gf, 0, none⟩) k co') k _ rfl hord [.int .i64 (to : Int)] 1 rfl rfl (by simp [Value.oneCell']) (by omega) hsz ?_
             intro g5 cap5 w5 hown5 hk5 hmv5 hg5
             have hI5 := hide (hI3.out.addO (s := to) (vO' := .slice (some ⟨g5, 0, none⟩) (k + 1) cap5) (by rw [← hmH.out]; exact hk5) (by rw [← hmH.out]; exact hown5) (by rw [← hmH.out]; exact hmv5))
             have hc6 := hI5.out.b6.cell
             have heds := hI5.out.eds
             rw [← hmeH.out] at hc6 heds
             have hsz5 := hI5.out.below.size
             clear hown5 hk5 hmv5 hg5)
          | (refine wpList_app_new (w := w5) row35 rfl _ _ rfl w0.heap.size (.slice AE me cE) me _ rfl heds [.int .i64 (i : Int), .int .i64 (x : Int), .int .i64 (k : Int)] 1 rfl rfl (by simp [Value.oneCell']) hme1 hsz5 ?_
             intro g' cap' w7 hown7 hk7 hmv7 hg7
             have hk7' := hk7
             rw [hmeH.out] at hk7'
             have hb67 := hI5.out.b6.kept hk7' (own_blk_ne hI5.out.eds hI5.out.b6 (by decide))
             have hc67 := hb67.cell
             have hf67 := hb67.frozen 4
             have hl67 := hb67.lt
             have hE7 := hide (hI5.out.addE (d := ⟨(i : Int), (x : Int), (k : Int)⟩) (vE' := .slice (some ⟨g', 0, none⟩) (me + 1) cap') hk7' (by rw [← hmeH.out]; exact hown7))
             clear hown7 hk7 hk7' hmv7 hb67))
        refine ⟨⟨x + 1, st' ++ [to], .slice (some ⟨g', 0, none⟩) (me + 1) cap', by go_num, by omega, ?_, hsn, hide (hp.out.trans (List.prefix_append _ _)), hide fun s hs => ?_⟩, by simp [intOf]; omega⟩
        · rw [hedge.out]
          exact hE7.out
        · rcases List.mem_append.1 hs with hs | hs
          · exact hl.out s hs
          · rw [List.mem_singleton.1 hs]; exact hto
    · obtain rfl : x = L := by omega
      clear hsl
      go_wp2_with fail
      exact hQ _ _ _ _ _ _ _ _ _ _ _ _ _ _ _ _ _ _ _ _ _ _ _ _ _ _ _ _ _ _ _ _ _ _ _ _ _ _ _ _ _ _ _ _ _ _ _ _ _ _ _ _ _ _ _ _ wr _ vE' st' hI.out hk.out hp.out hl.out
end Go.Proofs.YtpmceapjnnkhjaaDoor
