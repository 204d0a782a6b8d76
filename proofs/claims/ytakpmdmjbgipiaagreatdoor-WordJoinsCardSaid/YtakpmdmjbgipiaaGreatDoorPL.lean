/-
  Part PL of a proof.
-/
import Derived.Deep.LoopGhost
import Derived.Test.YtakpmdmjbgipiaaGreatDoorPA
import Derived.Test.YtakpmdmjbgipiaaGreatDoorPK
set_option maxHeartbeats 16000000
set_option maxRecDepth 100000
set_option linter.unusedVariables false
set_option linter.unusedSimpArgs false
namespace Go.Proofs.YtakpmdmjbgipiaaGreatDoor
open Go.RowKit
set_option maxHeartbeats 16000000
set_option maxRecDepth 100000
theorem delete_nil {w : World} {F g4 g10 : Nat} (hF : F = 73 ∨ F = 74) :
  Calls Tryz.prog 72 #[.slice none 0 0, .func (.func F) #[] #[.pointer (some ⟨g4, 0, none⟩), .pointer (some ⟨g10, 0, none⟩)]] w (Ret fun r w' => Below w.heap.size w w' ∧ r = .slice none 0 0) := by
 have hidx : Calls Tryz.prog 93 #[.slice none 0 0, .func (.func F) #[] #[.pointer (some ⟨g4, 0, none⟩), .pointer (some ⟨g10, 0, none⟩)]] w (Ret fun r w' => Below w.heap.size w w' ∧ r = .int .i64 (-1)) := by
  refine Calls.ret (index_any (l := []) (B := w.heap.size) (A := none) (c := 0) (p := fun _ => false) (Sl.nil rfl) (Nat.le_refl _) (by simp) hF (fun q hq => absurd hq List.not_mem_nil)) ?_
  rintro r w' ⟨hb, ⟨k, q, hq, _⟩ | ⟨rfl, _⟩⟩
  ·simp at hq
  ·exact ⟨hb, rfl⟩
 rcases hF with rfl | rfl
 all_goals
  go_enter Tryz.func72, Tryz.ntmps72
  go_wp2_with fail
  refine Calls.ret hidx ?_
  rintro r w1 ⟨hb1, rfl⟩
  have hbH := hide hb1
  clear hidx hb1
  go_wp2_with fail
  go_ret
  exact ⟨hbH.out, rfl⟩
theorem delete_row {w : World} {l : List Nat} {base F g4 g10 : Nat} {v : Value} {p : Nat → Bool} (h : w.ownsRow base 3 1 v l.length (rowV l)) (hl : l.length ≤ 4000000) (hF : F = 73 ∨ F = 74)
  (hp : ∀ q ∈ l, ∀ w', Kept w w' (fun k => v.ownBlock = some k) → Calls Tryz.prog F #[.int .i64 (q : Int), .pointer (some ⟨g4, 0, none⟩), .pointer (some ⟨g10, 0, none⟩)] w' (Ret fun r w'' => r = .bool (p q) ∧ Below w'.heap.size w' w'')) :
  Calls Tryz.prog 72 #[v, .func (.func F) #[] #[.pointer (some ⟨g4, 0, none⟩), .pointer (some ⟨g10, 0, none⟩)]] w (Ret fun r w' => Kept w w' (fun k => v.ownBlock = some k) ∧ r.ownBlock = v.ownBlock ∧ w'.ownsRow base 3 1 r (l.filter fun q => !p q).length (rowV (l.filter fun q => !p q))) := by
 rcases h.2 with ⟨rfl, h0⟩ | ⟨g, cap, cur, rfl, _⟩
 ·have : l = [] := List.length_eq_zero_iff.1 h0
  subst this
  refine Calls.ret (delete_nil hF) ?_
  rintro r w' ⟨hb, rfl⟩
  exact ⟨Kept.of_below hb _, rfl, own_nil⟩
 ·refine Calls.ret (delete_any (g := g) (c := cap) (p := p) h hl hF fun q hq w' hk => hp q hq w' (hk.mono fun b _ e => by subst e; rfl)) ?_
  rintro r w' ⟨hk, rfl, ho⟩
  exact ⟨hk.mono fun b _ e => by subst e; rfl, rfl, ho⟩
theorem cut_set (far : List Int) (m : List Bool) (k : Nat) : (setN m).filter (fun q => decide (far.getD q (-1) = (k : Int))) = setN (cutM far m k) := by
 unfold setN
 have hl : (cutM far m k).length = m.length := by simp [cutM]
 rw [hl, List.filter_filter]
 refine List.filter_congr fun q hq => ?_
 have hq := List.mem_range.1 hq
 rw [Bool.eq_iff_iff, cutM_get]
 simp only [Bool.and_eq_true, decide_eq_true_eq]
 exact And.comm
theorem cut_some {m : List Bool} : (0 < (setN m).length) ↔ someM m = true := by
 rw [List.length_pos_iff_exists_mem, some_iff]
 unfold setN
 simp only [List.mem_filter, List.mem_range]
theorem cut_cut (far : List Int) (m : List Bool) (k : Nat) : cutM far (cutM far m k) k = cutM far m k := by
 apply List.ext_getElem?
 intro q
 have hl : (cutM far m k).length = m.length := by simp [cutM]
 have hl2 : (cutM far (cutM far m k) k).length = m.length := by simp [cutM]
 rcases Nat.lt_or_ge q m.length with hq | hq
 ·obtain ⟨x, hx⟩ := get_lt (l := cutM far m k) (i := q) (by omega)
  obtain ⟨y, hy⟩ := get_lt (l := cutM far (cutM far m k) k) (i := q) (by omega)
  rw [hx, hy]
  congr 1
  rw [Bool.eq_iff_iff]
  have e1 := cutM_get (far := far) (m := m) (k := k) (q := q)
  have e2 := cutM_get (far := far) (m := cutM far m k) (k := k) (q := q)
  rw [getD_some hy, getD_some hx] at e2
  rw [getD_some hx] at e1
  rw [e2, e1]
  exact ⟨fun h => h.1, fun h => ⟨h, h.2⟩⟩
 ·rw [List.getElem?_eq_none (by omega), List.getElem?_eq_none (by omega)]
structure ShoX (w2 : World) (a : NF) (far : List Int) (vn : Value) (g1 g4 : Nat) (Af : Option Addr) (cf : Nat) : Prop where
 nf : IsNF w2 w2.heap.size vn a
 b1 : ∃ cs, vn = .agg cs ∧ Blk w2 g1 56 cs
 b4 : Blk w2 g4 22 #[.slice Af far.length cf]
 rd : Sl w2 w2.heap.size 1 encI Af far
 isF : a.Far far
 ok : a.OK
 n : a.n ≤ 200000
 L : a.L ≤ 8
 cat : ∀ m x, m.length = a.n → x < a.L → (a.cat (setL m) x).length ≤ 4000000
theorem ShoX.at {w2 w' : World} {a : NF} {far : List Int} {vn : Value} {g1 g4 cf : Nat} {Af : Option Addr} (h : ShoX w2 a far vn g1 g4 Af cf) (hb : Below w2.heap.size w2 w') : ShoX w' a far vn g1 g4 Af cf := by
 obtain ⟨cs, e, hB⟩ := h.b1
 exact ⟨h.nf.keep (fun p hp => hb.cell hp) hb.size, ⟨cs, e, hB.below hb⟩, h.b4.below hb, h.rd.keep (fun p hp => hb.cell hp) hb.size, h.isF, h.ok, h.n, h.L, h.cat⟩
structure ShoM (w2 wr : World) (g10 left : Nat) (vw vs : Value) (us l : List Nat) : Prop where
 below : Below w2.heap.size w2 wr
 cell : Blk wr g10 3 #[.int .i64 (left : Int)]
 ge : w2.heap.size ≤ g10
 word : wr.ownsRow w2.heap.size 3 1 vw us.length (rowV us)
 set : wr.ownsRow w2.heap.size 3 1 vs l.length (rowV l)
 sepw : vw.ownBlock ≠ some g10
 seps : vs.ownBlock ≠ some g10
 sep : ∀ g, vw.ownBlock = some g → vs.ownBlock ≠ some g
section
variable {w2 wr w1 : World} {g10 left : Nat} {vw vs : Value} {us l : List Nat}
theorem ShoM.keep (h : ShoM w2 wr g10 left vw vs us l) (hb : Below wr.heap.size wr w1) : ShoM w2 w1 g10 left vw vs us l :=
 ⟨h.below.trans (hb.mono h.below.size), h.cell.below hb, h.ge, own_below h.word hb, own_below h.set hb, h.sepw, h.seps, h.sep⟩
theorem ShoM.cut {vs' : Value} {l' : List Nat} (h : ShoM w2 wr g10 left vw vs us l) (hk : Kept wr w1 (fun k => vs.ownBlock = some k)) (hv : vs'.ownBlock = vs.ownBlock) (ho : w1.ownsRow w2.heap.size 3 1 vs' l'.length (rowV l')) : ShoM w2 w1 g10 left vw vs' us l' :=
 ⟨h.below.trans (hk.below h.below.size fun b hb e => by have := own_base h.set e; omega), h.cell.kept hk h.seps, h.ge, hk.ownsRow h.word (fun g hg e => h.sep g hg e), ho, h.sepw, by rw [hv]; exact h.seps, fun g hg => by rw [hv]; exact h.sep g hg⟩
theorem ShoM.found {w3 w4 : World} {v5 vw' : Value} {l' : List Nat} {x : Nat} (h : ShoM w2 wr g10 left vw vs us l) (hb : Below wr.heap.size wr w3) (h5 : w3.ownsRow wr.heap.size 3 1 v5 l'.length (rowV l'))
  (hk : Kept w3 w4 (fun k => vw.ownBlock = some k)) (ho : w4.ownsRow w2.heap.size 3 1 vw' (us.length + 1) (rowV us ++ [.int .i64 (x : Int)])) (hmv : Moved w3 vw vw') : ShoM w2 w4 g10 left vw' v5 (us ++ [x]) l' := by
 have h1 := h.keep hb
 have hlt : ∀ g, vw.ownBlock = some g → g < wr.heap.size := fun g hg => own_lt h.word hg
 have hw2 := h.below.size
 refine ⟨h1.below.trans (hk.below h1.below.size fun b hb e => by have := own_base h.word e; omega), h1.cell.kept hk h.sepw, h.ge, by rw [List.length_append, rowV_snoc]; exact ho, ?_, hmv.ne h1.cell.lt h.sepw, fun e => ?_, fun g hg e => ?_⟩
 ·exact own_mono (hk.ownsRow h5 fun g hg e => by have := own_base h5 hg; have := hlt g e; omega) hw2
 ·have := own_base h5 e; have := h.cell.lt; omega
 ·have h5b := own_base h5 e
  have h5l := own_lt h5 e
  rcases hmv with h6 | ⟨g', h6, h7⟩
  ·have := hlt g (by rw [← h6]; exact hg); omega
  ·rw [hg] at h6
   injection h6 with h6
   omega
theorem ShoM.fresh {g' k : Nat} (h : ShoM w2 wr g10 left vw vs us l) (hb : Below wr.heap.size wr w1) (hc : Blk w1 g' 3 #[.int .i64 (k : Int)]) (hg : wr.heap.size ≤ g') : ShoM w2 w1 g' k vw vs us l := by
 have h1 := h.keep hb
 have hw2 := h.below.size
 exact ⟨h1.below, hc, by omega, h1.word, h1.set, fun e => by have := own_lt h.word e; omega, fun e => by have := own_lt h.set e; omega, h.sep⟩
end
end Go.Proofs.YtakpmdmjbgipiaaGreatDoor
namespace Go.Proofs.YtakpmdmjbgipiaaGreatDoor
open Go.RowKit
set_option maxHeartbeats 16000000
set_option maxRecDepth 100000
theorem step_row {w : World} {v vs : Value} {a : NF} {m : List Bool} {x base : Nat} (h : IsNF w w.heap.size v a) (hok : a.OK) (hm : m.length = a.n) (hn : a.n ≤ 200000) (ho : w.ownsRow base 3 1 vs (setN m).length (rowV (setN m))) (hx : x < a.L) (hcap : (a.cat (setL m) x).length ≤ 4000000) :
  Calls Tryz.prog 54 #[v, vs, .int .i64 (x : Int)] w (Ret fun r w' => w'.ownsRow w.heap.size 3 1 r (setN (a.after m x)).length (rowV (setN (a.after m x))) ∧ Below w.heap.size w w') := by
 have hl : (setN m).length ≤ 200000 := by
  unfold setN
  have := List.length_filter_le (fun q => m.getD q false) (List.range m.length)
  rw [List.length_range] at this
  omega
 obtain ⟨A, c, e, hS⟩ := own_slI (l := natL (setN m)) ho (by simp [natL]) (Nat.le_refl _) (by omega)
 subst e
 refine Calls.ret (step_any (c := c) h hok hm hS (Nat.le_refl _) hx hcap) ?_
 rintro r w' ⟨h1, h2⟩
 refine ⟨?_, h2⟩
 rw [setL_nat] at h1
 have e : (natL (setN (a.after m x))).length = (setN (a.after m x)).length := by simp [natL]
 rw [e] at h1
 exact h1
theorem setN_len {m : List Bool} {n : Nat} (hm : m.length = n) : (setN m).length ≤ n := by
 unfold setN
 have := List.length_filter_le (fun q => m.getD q false) (List.range m.length)
 rw [List.length_range] at this
 omega
theorem not2_cut (far : List Int) (m : List Bool) (k : Nat) : ((setN m).filter fun q => !(!decide (far.getD q (-1) = (k : Int)))) = setN (cutM far m k) := by
 rw [← cut_set]
 exact List.filter_congr fun q _ => Bool.not_not _
theorem sho_x {w2 w : World} {a : NF} {far : List Int} {vn vw vs : Value} {g1 g4 cf g10 k L x0 : Nat} {Af : Option Addr} {us : List Nat} {m : List Bool} (hX0 : ShoX w2 a far vn g1 g4 Af cf) (hM0 : ShoM w2 w g10 (k + 1) vw vs us (setN m)) (hm : m.length = a.n) (hk8 : k ≤ 200000) (hus : us.length ≤ 200000) (hLE : L = a.L) (hx0 : x0 < L) (hL8 : L ≤ 8)
  (hno0 : ∀ y, y < x0 → someM (cutM far (a.after m y) k) = false) (hyes0 : someM (cutM far (a.after m x0) k) = true)
  {u0 u2 u3 u5 u6 u7 u11 u12 u13 u14 u15 u16 u17 u18 u19 u20 u21 u22 u23 u24 u25 u26 u27 u28 u29 u30 u31 u32 u33 u34 u35 u36 u37 u38 u39 u40 u41 u42 u43 u44 u45 u46 u47 u48 u49 u50 u51 u52 u53 u54 u55 u56 u57 u60 u61 u62 u63 u64 u65 u66 u67 u68 u69 u70 u71 u72 u73 u74 u75 u76 u77 u78 : Value} {Q : Exit → Act → World → Prop}
  (hQQ : ∀ (x11 x12 x59 x60 x61 x62 x63 x64 x65 x66 x67 x68 x69 x70 x71 x72 x73 x74 x75 x76 : Value) (w' : World) (vw' vs' : Value), ShoM w2 w' g10 (k + 1) vw' vs' (us ++ [x0]) (setN (cutM far (a.after m x0) k)) → Q (.exit 4) ⟨List.toArray (u0 :: (.pointer (some ⟨g1, 0, none⟩)) :: u2 :: u3 :: (.pointer (some ⟨g4, 0, none⟩)) :: u5 :: u6 :: u7 :: vw' :: vs' :: (.pointer (some ⟨g10, 0, none⟩)) :: x11 :: x12 :: u13 :: u14 :: u15 :: u16 :: u17 :: u18 :: u19 :: u20 :: u21 :: u22 :: u23 :: u24 :: u25 ::
   u26 :: u27 :: u28 :: u29 :: u30 :: u31 :: u32 :: u33 :: u34 :: u35 :: u36 :: u37 :: u38 :: u39 :: u40 :: u41 :: u42 :: u43 :: u44 :: u45 :: u46 :: u47 :: u48 :: u49 :: u50 :: u51 :: u52 :: u53 :: u54 :: u55 :: u56 :: u57 :: (.int .i64 (L : Int)) :: x59 :: x60 ::
   x61 :: x62 :: x63 :: x64 :: x65 :: x66 :: x67 :: x68 :: x69 :: x70 :: x71 :: x72 :: x73 :: x74 :: x75 :: x76 :: u77 :: u78 :: []), []⟩ w') :
  (Code.loop (loopBody Tryz.f46 2)).wp Tryz.prog Q ⟨List.toArray (u0 :: (.pointer (some ⟨g1, 0, none⟩)) :: u2 :: u3 :: (.pointer (some ⟨g4, 0, none⟩)) :: u5 :: u6 :: u7 :: vw :: vs :: (.pointer (some ⟨g10, 0, none⟩)) :: u11 :: u12 :: u13 :: u14 :: u15 :: u16 :: u17 :: u18 :: u19 :: u20 :: u21 :: u22 :: u23 :: u24 :: u25 ::
   u26 :: u27 :: u28 :: u29 :: u30 :: u31 :: u32 :: u33 :: u34 :: u35 :: u36 :: u37 :: u38 :: u39 :: u40 :: u41 :: u42 :: u43 :: u44 :: u45 :: u46 :: u47 :: u48 :: u49 :: u50 :: u51 :: u52 :: u53 :: u54 :: u55 :: u56 :: u57 :: (.int .i64 (L : Int)) ::
   (.int .i64 0) :: u60 :: u61 :: u62 :: u63 :: u64 :: u65 :: u66 :: u67 :: u68 :: u69 :: u70 :: u71 :: u72 :: u73 :: u74 :: u75 :: u76 :: u77 :: u78 :: []), []⟩ w := by
 conv => arg 2; arg 1; whnf
 have hX := hide hX0
 have hM := hide hM0
 have hmH := hide hm
 have hno := hide hno0
 have hyes := hide hyes0
 have hLH := hide hLE
 have hQQH := hide hQQ
 have hmf := run_mf
 clear hX0 hM0 hm hno0 hyes0 hLE hQQ
 go_loopw [8, 9, 59] (fun ww ss xx wr => ∃ (x : Nat), vw = ww ∧ vs = ss ∧ xx = .int .i64 (x : Int) ∧ x ≤ x0 ∧ Hid (ShoM w2 wr g10 (k + 1) vw vs us (setN m))) (fun _ _ xx _ => x0 + 1 - (intOf xx).toNat)
 case atStart => exact ⟨0, rfl, rfl, rfl, Nat.zero_le _, hM⟩
 case round =>
  obtain ⟨x, rfl, rfl, rfl, hx, hMr⟩ := hrel
  have hXr := hX.out.at hMr.out.below
  have hxL : x < L := by omega
  have hxL2 : x < a.L := by have := hLH.out; omega
  obtain ⟨A1, c1, A2, c2, A3, c3, hvn, -⟩ := hXr.nf
  obtain ⟨cs, e, hB⟩ := hXr.b1
  rw [hvn] at e
  injection e with e
  subst e
  have hc1 := hB.cell
  have hstep := step_row hXr.nf hXr.ok hmH.out hXr.n hMr.out.set hxL2 (hXr.cat m x hmH.out hxL2)
  rw [hvn] at hstep
  have hXrH := hide hXr
  have hvnH := hide hvn
  clear hXr hB hvn
  go_wp2_with fail
  refine Calls.ret hstep ?_
  rintro r3 w3 ⟨ho3, hb3⟩
  have hb23 := hMr.out.below.trans (hb3.mono hMr.out.below.size)
  have hX3 := hX.out.at hb23
  have hM3 := hMr.out.keep hb3
  have hfl : far.length = a.n := hX3.isF.len
  have hs2r := hMr.out.below.size
  have hdel := delete_row (F := 74) (g4 := g4) (g10 := g10) (p := fun q => !decide (far.getD q (-1) = (k : Int))) ho3 (by have := setN_len (a.after_len m x); have := hX3.n; omega) (.inr rfl) (fun q hq w' hk => by
   have hXw : ShoX w' a far vn g1 g4 Af cf := hX.out.at (hb23.trans (hk.below hb23.size fun b hb e => by have := own_base ho3 e; omega))
   have hqn : q < a.n := setN_lt (a.after_len m x) q hq
   refine drop2_any hXw.b4 hXw.rd ?_ (by omega) (by omega)
   have := (hM3.cell.kept hk (fun e => by have := own_base ho3 e; have := hMr.out.cell.lt; omega)).cell 0
   rw [this]
   rfl)
  rw [not2_cut] at hdel
  have ho3H := hide ho3
  have hb3H := hide hb3
  clear hstep hM3 hX3 hfl hb23 ho3 hb3
  go_wp2_with fail
  refine Calls.ret hdel ?_
  rintro r5 w5 ⟨hk5, hv5, ho5⟩
  have hb5 : Below wr.heap.size wr w5 := hb3H.out.trans (hk5.below hb3H.out.size fun b hb e => by have := own_base ho3H.out e; omega)
  obtain ⟨A5, c5, rfl⟩ := slice_of_own ho5
  have hpos := cut_some (m := cutM far (a.after m x) k)
  rcases hsm : someM (cutM far (a.after m x) k) with _ | _
  ·rw [hsm] at hpos
   have hz : (setN (cutM far (a.after m x) k)).length = 0 := by
    rcases Nat.eq_zero_or_pos (setN (cutM far (a.after m x) k)).length with h | h
    ·exact h
    ·exact absurd (hpos.1 h) (by simp)
   have hlt : x < x0 := by
    rcases Nat.lt_or_ge x x0 with h | h
    ·exact h
    ·have e : x = x0 := by omega
     rw [e, hyes.out] at hsm
     cases hsm
   have hM5 := hide (hMr.out.keep hb5)
   rw [hz]
   clear hdel hk5 hv5 ho5 hb5 hpos hz hsm
   go_wp2_with fail
   exact ⟨⟨x + 1, rfl, rfl, by go_num, by omega, hM5⟩, by simp [intOf]; omega⟩
  ·have hlen : 0 < (setN (cutM far (a.after m x) k)).length := hpos.2 hsm
   have hx00 : x = x0 := by
    rcases Nat.lt_or_ge x x0 with h | h
    ·rw [hno.out x h] at hsm
     cases hsm
    ·omega
   subst hx00
   obtain ⟨ln, hln⟩ : ∃ ln, ln = (setN (cutM far (a.after m x) k)).length := ⟨_, rfl⟩
   have hlnH := hide hln
   have ho5H := hide ho5
   have hb5H := hide hb5
   rw [← hln] at hlen ⊢
   have hword := hide (own_below hMr.out.word hb5)
   have hs5 := hb5.size
   clear hdel hk5 hv5 ho5 hb5 hpos hsm hln
   go_wp2_with (
    at_builtin
    refine wpList_app_new (w := w5) row3 rfl _ _ rfl w2.heap.size vw us.length _ rfl hword.out [.int .i64 (x : Int)] 1 rfl rfl (by simp [Value.oneCell']) (by omega) (by omega) ?_
    intro g cap w6 hown6 hk6 hmv6 hg6
    have hM6 := hide (hMr.out.found (x := x) (v5 := .slice A5 ln c5) (l' := setN (cutM far (a.after m x) k)) hb5H.out (by rw [hlnH.out]; exact ho5H.out) hk6 hown6 hmv6)
    clear hown6 hk6 hmv6)
   exact hQQH.out _ _ _ _ _ _ _ _ _ _ _ _ _ _ _ _ _ _ _ _ _ _ _ hM6.out
end Go.Proofs.YtakpmdmjbgipiaaGreatDoor
namespace Go.Proofs.YtakpmdmjbgipiaaGreatDoor
open Go.RowKit
set_option maxHeartbeats 16000000
set_option maxRecDepth 100000
theorem sho_l {w2 w : World} {a : NF} {far : List Int} {vn vw vs : Value} {g1 g4 cf g10 left : Nat} {Af : Option Addr} {m : List Bool} {tot : List Nat} (hX0 : ShoX w2 a far vn g1 g4 Af cf) (hM0 : ShoM w2 w g10 left vw vs [] (setN m)) (hm : m.length = a.n) (hl8 : left ≤ 200000)
  (hL0 : a.Lev far (cutM far m left) left) (htot : a.shortW far left (cutM far m left) = tot)
  {u0 u2 u3 u5 u6 u7 u11 u12 u13 u14 u15 u16 u17 u18 u19 u20 u21 u22 u23 u24 u25 u26 u27 u28 u29 u30 u31 u32 u33 u34 u35 u36 u37 u38 u39 u40 u41 u42 u43 u44 u45 u46 u47 u48 u49 u50 u51 u52 u53 u54 u55 u56 u57 u58 u59 u60 u61 u62 u63 u64 u65 u66 u67 u68 u69 u70 u71 u72 u73 u74 u75 u76 u77 u78 : Value} {Q : Exit → Act → World → Prop}
  (hQQ : ∀ (x9 x10 x11 x12 x50 x51 x52 x53 x54 x55 x56 x57 x58 x59 x60 x61 x62 x63 x64 x65 x66 x67 x68 x69 x70 x71 x72 x73 x74 x75 x76 x77 : Value) (w' : World) (vw' : Value), Below w2.heap.size w2 w' → w'.ownsRow w2.heap.size 3 1 vw' tot.length (rowV tot) → Q (.exit 2) ⟨List.toArray (u0 :: (.pointer (some ⟨g1, 0, none⟩)) :: u2 :: u3 :: (.pointer (some ⟨g4, 0, none⟩)) :: u5 :: u6 :: u7 :: vw' :: x9 :: x10 :: x11 :: x12 :: u13 :: u14 :: u15 :: u16 :: u17 :: u18 :: u19 :: u20 :: u21 :: u22 :: u23 :: u24 :: u25 :: u26 :: u27 :: u28 :: u29 ::
   u30 :: u31 :: u32 :: u33 :: u34 :: u35 :: u36 :: u37 :: u38 :: u39 :: u40 :: u41 :: u42 :: u43 :: u44 :: u45 :: u46 :: u47 :: u48 :: u49 :: x50 :: x51 :: x52 :: x53 :: x54 :: x55 :: x56 :: x57 :: x58 :: x59 :: x60 :: x61 :: x62 :: x63 :: x64 :: x65 :: x66 ::
   x67 :: x68 :: x69 :: x70 :: x71 :: x72 :: x73 :: x74 :: x75 :: x76 :: x77 :: u78 :: []), []⟩ w') :
  (Code.loop (loopBody Tryz.f46 1)).wp Tryz.prog Q ⟨List.toArray (u0 :: (.pointer (some ⟨g1, 0, none⟩)) :: u2 :: u3 :: (.pointer (some ⟨g4, 0, none⟩)) :: u5 :: u6 :: u7 :: vw :: vs :: (.pointer (some ⟨g10, 0, none⟩)) :: u11 :: u12 :: u13 :: u14 :: u15 :: u16 :: u17 :: u18 :: u19 :: u20 :: u21 :: u22 :: u23 :: u24 :: u25 ::
   u26 :: u27 :: u28 :: u29 :: u30 :: u31 :: u32 :: u33 :: u34 :: u35 :: u36 :: u37 :: u38 :: u39 :: u40 :: u41 :: u42 :: u43 :: u44 :: u45 :: u46 :: u47 :: u48 :: u49 :: u50 :: u51 :: u52 :: u53 :: u54 :: u55 :: u56 :: u57 :: u58 :: u59 :: u60 :: u61 :: u62 ::
   u63 :: u64 :: u65 :: u66 :: u67 :: u68 :: u69 :: u70 :: u71 :: u72 :: u73 :: u74 :: u75 :: u76 :: u77 :: u78 :: []), []⟩ w := by
 conv => arg 2; arg 1; whnf
 have hX := hide hX0
 have hM := hide hM0
 have hmH := hide hm
 have hLev := hide hL0
 have htotH := hide htot
 have hQQH := hide hQQ
 have hmf := run_mf
 clear hX0 hM0 hm hL0 htot hQQ
 go_loopg [8, 9, 10] (left) (fun kk ww ss pp wr => ∃ (m : List Bool) (us : List Nat) (g10 : Nat), pp = .pointer (some ⟨g10, 0, none⟩) ∧ Hid (ShoM w2 wr g10 kk ww ss us (setN m)) ∧ Hid (m.length = a.n) ∧ Hid (a.Lev far (cutM far m kk) kk) ∧ Hid (us ++ a.shortW far kk (cutM far m kk) = tot) ∧ Hid (us.length + kk = left))
 case atStart => exact ⟨m, [], g10, rfl, hM, hmH, hLev, htotH, by show _ = _; simp⟩
 case round =>
  obtain ⟨m, us, g10, rfl, hMr, hmr, hLr, htr, hur⟩ := hrel
  have hc10 := hMr.out.cell.cell 0
  rcases gk with _ | k
  ·have hus : us = tot := by have := htr.out; simpa [NF.shortW] using this
   subst hus
   go_wp2_with fail
   exact hQQH.out _ _ _ _ _ _ _ _ _ _ _ _ _ _ _ _ _ _ _ _ _ _ _ _ _ _ _ _ _ _ _ _ _ _ hMr.out.below hMr.out.word
  ·have hXr := hX.out.at hMr.out.below
   have hfl : far.length = a.n := hXr.isF.len
   obtain ⟨A1, c1, A2, c2, A3, c3, hvn, -⟩ := hXr.nf
   obtain ⟨cs, e, hB⟩ := hXr.b1
   rw [hvn] at e
   injection e with e
   subst e
   have hdel := delete_row (F := 73) (g4 := g4) (g10 := g10) (p := fun q => !decide (far.getD q (-1) = ((k + 1 : Nat) : Int))) hMr.out.set (by have := setN_len hmr.out; have := hXr.n; omega) (.inl rfl) (fun q hq w' hk => by
    have hXw : ShoX w' a far vn g1 g4 Af cf := hX.out.at (hMr.out.below.trans (hk.below hMr.out.below.size fun b hb e => by have := own_base hMr.out.set e; omega))
    have hqn : q < a.n := setN_lt hmr.out q hq
    refine drop1_any hXw.b4 hXw.rd ?_ (by omega)
    exact (hMr.out.cell.kept hk hMr.out.seps).cell 0)
   rw [not2_cut] at hdel
   obtain ⟨x0, hp, hx0, hLx, hless⟩ := hLr.out.pick hXr.isF
   have hsw : a.shortW far (k + 1) (cutM far m (k + 1)) = x0 :: a.shortW far k (cutM far (a.after (cutM far m (k + 1)) x0) k) := by rw [NF.shortW, hp]
   have hyes : someM (cutM far (a.after (cutM far m (k + 1)) x0) k) = true := by
    obtain ⟨q, hq, hqm⟩ := hLx.ne
    exact some_iff.2 ⟨q, by rw [hLx.len]; exact hq, hqm⟩
   have hyesH := hide hyes
   have hlessH := hide hless
   have hLxH := hide hLx
   have hswH := hide hsw
   have hcl : (cutM far m (k + 1)).length = a.n := by simp [cutM]; exact hmr.out
   have hclH := hide hcl
   obtain ⟨L, hLE⟩ : ∃ L, L = a.L := ⟨_, rfl⟩
   have hLEH := hide hLE
   have hL8 : L ≤ 8 := by rw [hLE]; exact hXr.L
   have hk8 : k ≤ 200000 := by have := hur.out; omega
   have hus8 : us.length ≤ 200000 := by have := hur.out; omega
   have hx0L : x0 < L := by omega
   clear hXr hfl hvn hB hp hx0 hLx hless hsw hyes hcl hLE
   go_wp2_with fail
   refine Calls.ret hdel ?_
   rintro r3 w3 ⟨hk3, hv3, ho3⟩
   have hM3 := hMr.out.cut hk3 hv3 ho3
   have hX3 := hX.out.at hM3.below
   obtain ⟨A1', c1', A2', c2', A3', c3', hvn', -⟩ := hX3.nf
   obtain ⟨cs', e', hB'⟩ := hX3.b1
   rw [hvn'] at e'
   injection e' with e'
   subst e'
   have hc1 := hB'.cell
   rw [← hLEH.out] at hc1
   have hM3H := hide hM3
   clear hdel hk3 hv3 ho3 hM3 hX3 hvn' hB'
   go_wp2_with fail
   refine sho_x hX.out hM3H.out hclH.out hk8 hus8 hLEH.out hx0L hL8 hlessH.out hyesH.out ?_
   iterate 20 (intro _)
   intro w4 vw4 vs4 hM4
   have hc4 := hM4.cell.cell 0
   obtain ⟨w5, hw5, hb5, hB5, hk5⟩ := box_blk w4 #[.int .i64 (k : Int)] 3
   have hM5 := hide (hM4.fresh hb5 hB5 (Nat.le_refl _))
   have hM4H := hide hM4
   clear hM4 hb5 hB5 hk5
   go_wp2_with fail
   go_roundg k
   case measure => omega
   case rel =>
    refine ⟨_, _, _, rfl, hM5, hLxH.out.len, ?_, ?_, ?_⟩
    ·show NF.Lev _ _ _ _
     rw [cut_cut]
     exact hLxH.out
    ·have := htr.out
     rw [hswH.out] at this
     show _ = _
     rw [cut_cut, List.append_assoc]
     exact this
    ·have := hur.out
     show _ = _
     rw [List.length_append, List.length_singleton]
     omega
theorem sho_b {w2 w : World} {a : NF} {far : List Int} {vn : Value} {g1 g4 cf c2 : Nat} {Af A2 : Option Addr} (hX0 : ShoX w2 a far vn g1 g4 Af cf) (hb0 : Below w2.heap.size w2 w) (hS0 : Sl w2 w2.heap.size 1 encI A2 a.start)
  {u0 u1 u2 u3 u6 u7 u8 u9 u10 u11 u12 u13 u14 u15 u19 u20 u21 u22 u23 u24 u25 u26 u27 u28 u29 u30 u31 u32 u33 u34 u35 u36 u37 u38 u39 u40 u41 u42 u43 u44 u45 u46 u47 u48 u49 u50 u51 u52 u53 u54 u55 u56 u57 u58 u59 u60 u61 u62 u63 u64 u65 u66 u67 u68 u69 u70 u71 u72 u73 u74 u75 u76 u77 u78 : Value} {Q : Exit → Act → World → Prop}
  (hQQ : ∀ (x7 x18 x19 x20 x21 x22 x23 x24 x25 x26 x27 x28 x29 x30 x31 x32 x33 x34 x35 x36 x37 x38 x39 x40 x41 x42 x43 : Value) (w' : World), Below w2.heap.size w2 w' → Q (.exit 0) ⟨List.toArray (u0 :: u1 :: u2 :: u3 :: (.pointer (some ⟨g4, 0, none⟩)) :: (.int .i64 (bestI far (-1) a.start)) :: u6 :: x7 :: u8 :: u9 :: u10 :: u11 :: u12 :: u13 :: u14 :: u15 :: (.slice A2 a.start.length c2) :: (.int .i64 (a.start.length : Int)) :: x18 :: x19 :: x20 :: x21 ::
   x22 :: x23 :: x24 :: x25 :: x26 :: x27 :: x28 :: x29 :: x30 :: x31 :: x32 :: x33 :: x34 :: x35 :: x36 :: x37 :: x38 :: x39 :: x40 :: x41 :: x42 :: x43 :: u44 :: u45 :: u46 :: u47 :: u48 :: u49 :: u50 :: u51 :: u52 :: u53 :: u54 :: u55 :: u56 :: u57 :: u58 ::
   u59 :: u60 :: u61 :: u62 :: u63 :: u64 :: u65 :: u66 :: u67 :: u68 :: u69 :: u70 :: u71 :: u72 :: u73 :: u74 :: u75 :: u76 :: u77 :: u78 :: []), []⟩ w') :
  (Code.loop (loopBody Tryz.f46 0)).wp Tryz.prog Q ⟨List.toArray (u0 :: u1 :: u2 :: u3 :: (.pointer (some ⟨g4, 0, none⟩)) :: (.int .i64 (-1)) :: u6 :: u7 :: u8 :: u9 :: u10 :: u11 :: u12 :: u13 :: u14 :: u15 :: (.slice A2 a.start.length c2) :: (.int .i64 (a.start.length : Int)) :: (.int .i64 0) :: u19 :: u20 :: u21 :: u22 ::
   u23 :: u24 :: u25 :: u26 :: u27 :: u28 :: u29 :: u30 :: u31 :: u32 :: u33 :: u34 :: u35 :: u36 :: u37 :: u38 :: u39 :: u40 :: u41 :: u42 :: u43 :: u44 :: u45 :: u46 :: u47 :: u48 :: u49 :: u50 :: u51 :: u52 :: u53 :: u54 :: u55 :: u56 :: u57 :: u58 :: u59 ::
   u60 :: u61 :: u62 :: u63 :: u64 :: u65 :: u66 :: u67 :: u68 :: u69 :: u70 :: u71 :: u72 :: u73 :: u74 :: u75 :: u76 :: u77 :: u78 :: []), []⟩ w := by
 conv => arg 2; arg 1; whnf
 have hX := hide hX0
 have hb := hide hb0
 have hS := hide hS0
 have hQQH := hide hQQ
 have hsl := hS0.1
 have hge := hide hX0.isF.ge
 obtain ⟨n, hn⟩ : ∃ n, n = a.start.length := ⟨_, rfl⟩
 have hnH := hide hn
 rw [← hn] at hsl ⊢
 clear hX0 hb0 hS0 hn hQQ
 go_loopw [5, 18] (fun bb kk wr => ∃ (k : Nat), bb = .int .i64 (bestI far (-1) (a.start.take k)) ∧ kk = .int .i64 (k : Int) ∧ k ≤ n ∧ Hid (Below w2.heap.size w2 wr)) (fun _ kk _ => n - (intOf kk).toNat)
 case atStart => exact ⟨0, rfl, rfl, Nat.zero_le _, hb⟩
 case round =>
  obtain ⟨k, rfl, rfl, hk, hbr⟩ := hrel
  by_cases hlt : k < n
  ·obtain ⟨s, hs⟩ := get_lt (l := a.start) (i := k) (by rw [← hnH.out]; exact hlt)
   obtain ⟨b, off, rfl, hbk, hc⟩ := sl_intat hS.out hs
   have hcr := (hbr.out.cell (p := ⟨b, off + k, none⟩) hbk).trans hc
   obtain ⟨q, rfl, hq⟩ := inN_nat (hX.out.ok.start s (List.mem_of_getElem? hs))
   simp only [Int.toNat_natCast] at hq
   have hfl : far.length = a.n := hX.out.isF.len
   obtain ⟨z, hz⟩ := get_lt (l := far) (i := q) (by omega)
   obtain ⟨bf, of', rfl, hbf, hcf⟩ := sl_intat hX.out.rd hz
   have hcfr := (hbr.out.cell (p := ⟨bf, of' + q, none⟩) hbf).trans hcf
   have hc4 := (hX.out.at hbr.out).b4.cell 0
   have hst := hide (bestI_step (far := far) (b := -1) hs)
   have hzz : Hid (far.getD ((q : Int)).toNat (-1) = z) := by show _ = _; rw [Int.toNat_natCast, getD_some hz]
   have hzg : -1 ≤ z := by have := hge.out q; rw [getD_some hz] at this; exact this
   have hqf : q < far.length := by omega
   obtain ⟨fl, hfle⟩ : ∃ fl, fl = far.length := ⟨_, rfl⟩
   rw [← hfle] at hc4 hqf
   obtain ⟨bb, hbb⟩ : ∃ bb, bb = bestI far (-1) (a.start.take k) := ⟨_, rfl⟩
   rw [← hbb]
   have hbbH := hide hbb
   have hflm : fl ≤ 9223372036854775807 := by rw [hfle]; exact hX.out.rd.1
   clear hs hc hz hcf hbb hfl hfle
   have fin : ∀ b' : Int, (b' = if 0 ≤ z ∧ (bb < 0 ∨ z < bb) then z else bb) → b' = bestI far (-1) (a.start.take (k + 1)) := fun b' e => by rw [e, hst.out, hzz.out, ← hbbH.out]
   have finH := hide fin
   clear fin
   by_cases h1 : 0 ≤ z
   ·by_cases h2 : bb < 0
    ·go_wp2_with fail
     exact ⟨⟨k + 1, by rw [← finH.out z (by rw [if_pos ⟨h1, .inl h2⟩])], by go_num, by omega, hbr⟩, by simp [intOf]; omega⟩
    ·by_cases h3 : z < bb
     ·go_wp2_with fail
      exact ⟨⟨k + 1, by rw [← finH.out z (by rw [if_pos ⟨h1, .inr h3⟩])], by go_num, by omega, hbr⟩, by simp [intOf]; omega⟩
     ·go_wp2_with fail
      exact ⟨⟨k + 1, by rw [← finH.out bb (by rw [if_neg (by omega)])], by go_num, by omega, hbr⟩, by simp [intOf]; omega⟩
   ·go_wp2_with fail
    exact ⟨⟨k + 1, by rw [← finH.out bb (by rw [if_neg (by omega)])], by go_num, by omega, hbr⟩, by simp [intOf]; omega⟩
  ·obtain rfl : k = n := by omega
   have hta : a.start.take k = a.start := by rw [hnH.out, List.take_length]
   rw [hta]
   go_wp2_with fail
   rw [hnH.out]
   exact hQQH.out _ _ _ _ _ _ _ _ _ _ _ _ _ _ _ _ _ _ _ _ _ _ _ _ _ _ _ _ hbr.out
theorem NF.sort_start {a : NF} (hok : a.OK) : sortU a.start = setL a.st := by
 refine sortU_set fun x => ?_
 constructor
 ·intro hx
  obtain ⟨q, rfl, hq⟩ := inN_nat (hok.start x hx)
  simp only [Int.toNat_natCast] at hq
  exact ⟨q, rfl, by unfold NF.st; rw [marksM_get hq]; simp [hx]⟩
 ·rintro ⟨q, rfl, hq⟩
  have hqn := lt_of_get hq
  rw [a.st_len] at hqn
  unfold NF.st at hq
  rw [marksM_get hqn] at hq
  simpa using hq
theorem shortest_any {w : World} {v : Value} {a : NF} (h : IsNF w w.heap.size v a) (hok : a.OK) (hn : a.n ≤ 200000) (hL : a.L ≤ 8) (hE : (a.psS a.n).length ≤ 3000000) (hst : a.start.length ≤ 4000000) (hcat : ∀ m x, m.length = a.n → x < a.L → (a.cat (setL m) x).length ≤ 4000000) :
  Calls Tryz.prog 46 #[v] w (Ret fun r w' => Below w.heap.size w w' ∧ ∃ far, a.Far far ∧ ((a.shortR far = none ∧ r = .tuple #[.slice none 0 0, .bool false]) ∨ ∃ u A c, a.shortR far = some u ∧ r = .tuple #[.slice A u.length c, .bool true] ∧ Sl w' w'.heap.size 1 encI A (natL u))) := by
 obtain ⟨A1, c1, A2, c2, A3, c3, hv, h1, h2, h3, h4⟩ := id h
 subst hv
 obtain ⟨w1, hw1, hb1, hB1, hk1⟩ := box_blk w #[.int .i64 (a.L : Int), .slice A1 a.nx.length c1, .slice A2 a.start.length c2, .slice A3 a.acc.length c3] 56
 have hs1 := hb1.size
 have hnf1 := h.keep (w' := w1) (fun p hp => hb1.cell hp) hs1
 have hdis := distances_any hnf1 hok hn hL hE
 have hc1 := hB1.cell
 have hB1H := hide hB1
 have hb1H := hide hb1
 have hnfH := hide hnf1
 have h2H := hide h2
 have hokH := hide hok
 have hcatH := hide hcat
 have hnH := hide hn
 have hLH := hide hL
 clear h h1 h2 h3 h4 hk1 hnf1 hok hn hL hE hb1 hcat
 go_enter Tryz.func46, Tryz.ntmps46
 go_wp2_with fail
 refine Calls.ret hdis ?_
 rintro r2 w2 ⟨hb2, far, Af, cf, rfl, hF, hSf⟩
 obtain ⟨w3, hw3, hb3, hB3, hk3⟩ := box_blk w2 #[.slice Af far.length cf] 22
 have hb13 := hb2.trans (hb3.mono hb2.size)
 have hX : ShoX w3 a far (.agg #[.int .i64 (a.L : Int), .slice A1 a.nx.length c1, .slice A2 a.start.length c2, .slice A3 a.acc.length c3]) w.heap.size w2.heap.size Af cf :=
  ⟨hnfH.out.keep (fun p hp => hb13.cell hp) hb13.size, ⟨_, rfl, hB1H.out.below hb13⟩, hB3, hSf.keep (fun p hp => hb3.cell hp) hb3.size, hF, hokH.out, hnH.out, hLH.out, hcatH.out⟩
 have hS3 : Sl w3 w3.heap.size 1 encI A2 a.start := h2H.out.keep (fun p hp => (hb1H.out.trans (hb13.mono hs1)).cell hp) (by have := hb13.size; omega)
 have hc3 := (hB1H.out.below hb13).cell
 have hXH := hide hX
 have hS3H := hide hS3
 have hbH := hide (hb1H.out.trans (hb13.mono hs1))
 have hFH := hide hF
 clear hdis hb2 hF hSf hb3 hB3 hk3 hb13 hX hS3
 obtain ⟨fl, hfl⟩ : ∃ fl, fl = far.length := ⟨_, rfl⟩
 have hflH := hide hfl
 rw [← hfl] at hw3 ⊢
 clear hfl
 go_wp2_with fail
 refine sho_b hXH.out (Below.refl _ _) hS3H.out ?_
 iterate 27 (intro _)
 intro w4 hb4
 have hsp := hide (bestI_spec hFH.out.ge a.start (-1) (by omega))
 obtain ⟨b, hb⟩ : ∃ b, b = bestI far (-1) a.start := ⟨_, rfl⟩
 have hbbH := hide hb
 have hX4 := hide (hXH.out.at hb4)
 have hb4H := hide (hbH.out.trans (hb4.mono hbH.out.size))
 have hS4 := hide (hS3H.out.keep (w' := w4) (fun p hp => hb4.cell hp) hb4.size)
 have hc4 := ((show Blk w3 w.heap.size 56 #[.int .i64 (a.L : Int), .slice A1 a.nx.length c1, .slice A2 a.start.length c2, .slice A3 a.acc.length c3] from by
  obtain ⟨cs, e, hB⟩ := hXH.out.b1
  injection e with e
  subst e
  exact hB).below hb4).cell
 rw [← hb]
 clear hb hb4
 by_cases hneg : b < 0
 ·have hR : Hid (a.shortR far = none) := by show _ = _; unfold NF.shortR; rw [if_pos (by rw [← hbbH.out]; exact hneg)]
  go_wp2_with fail
  go_ret2
  exact ⟨hb4H.out, far, hFH.out, .inl ⟨hR.out, rfl⟩⟩
 ·obtain ⟨k, hk⟩ := Int.eq_ofNat_of_zero_le (show 0 ≤ b by omega)
  subst hk
  have hsort := sorted_any (c := c2) hS4.out hst
  rw [NF.sort_start hokH.out, setL_nat] at hsort
  have enl : (natL (setN a.st)).length = (setN a.st).length := by simp [natL]
  rw [enl] at hsort
  have hLev := hide (NF.start_lev hFH.out hokH.out hbbH.out.symm)
  have hR : Hid (a.shortR far = some (a.shortW far k (cutM far a.st k))) := by show _ = _; unfold NF.shortR; rw [← hbbH.out, if_neg hneg, Int.toNat_natCast]
  have hk8 : k ≤ 200000 := by
   obtain ⟨q, hq, hm⟩ := hLev.out.ne
   have := (hLev.out.all q hq hm).lt hq
   have := hnH.out
   omega
  have hwl : Hid ((a.shortW far k (cutM far a.st k)).length = k) := (NF.shortW_spec hFH.out k _ hLev.out).2.1
  go_wp2_with fail
  refine Calls.ret hsort ?_
  rintro vs w5 ⟨hO5, hb5⟩
  obtain ⟨w6, hw6, hb6, hB6, hk6⟩ := box_blk w5 #[.int .i64 (k : Int)] 3
  have hX6 := hide (hX4.out.at (hb5.trans (hb6.mono hb5.size)))
  have hM6 : ShoM w4 w6 w5.heap.size k (.slice none 0 0) vs [] (setN a.st) :=
   ⟨hb5.trans (hb6.mono hb5.size), hB6, hb5.size, own_nil, own_below hO5 hb6, fun e => by simp [Value.ownBlock] at e, fun e => by have := own_lt hO5 e; omega, fun g hg => by simp [Value.ownBlock] at hg⟩
  have hM6H := hide hM6
  have hb0H := hide hb4H.out
  clear hsort hO5 hb5 hb6 hB6 hk6 hM6 hsp enl
  go_wp2_with fail
  refine sho_l hX4.out hM6H.out a.st_len hk8 hLev.out rfl ?_
  iterate 32 (intro _)
  intro w7 vw hb7 hO7
  obtain ⟨A7, c7, e7, hS7⟩ := own_slI (l := natL (a.shortW far k (cutM far a.st k))) hO7 (by simp [natL]) (Nat.le_refl _) (by have := hwl.out; omega)
  have enl2 : (natL (a.shortW far k (cutM far a.st k))).length = (a.shortW far k (cutM far a.st k)).length := by simp [natL]
  rw [enl2] at e7
  subst e7
  have hS7H := hide hS7
  have hb7H := hide (hb0H.out.trans (hb7.mono hb0H.out.size))
  clear hS7 hb7 hO7 enl2
  go_wp2_with fail
  go_ret2
  exact ⟨hb7H.out, far, hFH.out, .inr ⟨_, A7, c7, hR.out, rfl, hS7H.out⟩⟩
end Go.Proofs.YtakpmdmjbgipiaaGreatDoor
