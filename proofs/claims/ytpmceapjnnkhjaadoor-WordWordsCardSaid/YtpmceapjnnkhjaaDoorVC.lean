/-
  Part VC of a proof.
-/
import Derived.ArgAppend
import Derived.OwnWalk
import Derived.Deep.MidRow
import Derived.Test.YtpmceapjnnkhjaaDoorPA
import Derived.Test.YtpmceapjnnkhjaaDoorPS
import Derived.Test.YtpmceapjnnkhjaaDoorPB
import Derived.Test.YtpmceapjnnkhjaaDoorVB
import Derived.Test.YtpmceapjnnkhjaaDoorVA
set_option maxHeartbeats 16000000
set_option maxRecDepth 100000
set_option linter.unusedVariables false
set_option linter.unusedSimpArgs false
namespace Go.Proofs.YtpmceapjnnkhjaaDoor
open Go.RowKit
set_option maxHeartbeats 16000000
set_option maxRecDepth 100000
theorem clone_any {w : World} {base n : Nat} {v : Value} {xs : List Int} (h : w.ownsRow base 3 1 v n (xs.map (Value.int .i64))) (hl : n = xs.length) (hn : n ≤ 4000000) :
  Calls Tryd.prog 72 #[v] w (Ret fun r w' => Below w.heap.size w w' ∧ w'.ownsRow w.heap.size 3 1 r n (xs.map (Value.int .i64))) := by
 have hR := own_slI (B := w.heap.size) h hl.symm (Nat.le_refl _) (by omega)
 rcases h.2 with ⟨rfl, h0⟩ | ⟨g, cap, cur, rfl, -⟩
 ·subst h0
  have hx : xs = [] := List.length_eq_zero_iff.1 hl.symm
  subst hx
  refine (Tryd.slices_Clone_int_nil 0 0 w).mono ?_
  rintro e w' ⟨rfl, rfl⟩
  exact ⟨Below.refl _ _, own_nil⟩
 ·obtain ⟨A, c, e, hS⟩ := hR
  rw [← hl] at e
  injection e with e1 e2 e3
  subst e1 e3
  refine (Tryd.slices_Clone_int g 0 n cap xs w (by omega) (by omega) (fun j hj => ?_)).mono ?_
  ·obtain ⟨x, hx⟩ := get_lt hj
   obtain ⟨b, off, e, hb, hc⟩ := hS.2 (fun e => by rw [e] at hx; simp at hx)
   have h1 := hc j x hx 0 (by omega)
   injection e with e
   injection e with e4 e5
   subst e4 e5
   simp only [encI, Nat.mul_one, Nat.add_zero] at h1
   rw [h1, List.getD_eq_getElem?_getD, hx]
   rfl
  ·rintro e w' ⟨v', rfl, hown, -, hb⟩
   rw [List.take_of_length_le (by omega)] at hown
   exact ⟨hb, hown⟩
end Go.Proofs.YtpmceapjnnkhjaaDoor
namespace Go.Proofs.YtpmceapjnnkhjaaDoor
open Go.RowKit
set_option maxHeartbeats 16000000
set_option maxRecDepth 100000
section
variable {P : Program} {ops : Array Oper} {rest : List Oper} {o : Oper} {a : Act} {Q : Exit → Act → World → Prop}
theorem wpList_app2 {w : World} {t e size : Nat} (R : RowTy P t e size) (hgd : o.guard = none) (s x : Operand)
  (ho : o.op = .call { callee := .builtin .append, args := #[s, x], argTypes := #[t, t] })
  (base : Nat) (v : Value) (n : Nat) (xs : List Value) (hs : a.eval s = v) (hown : w.ownsRow base e size v n xs)
  (ad : Addr) (m c : Nat) (news : List Value) (hx : a.eval x = .slice (some ad) m c) (hl : news.length = m * size) (hnews : ∀ j u, news[j]? = some u → w.cell? (ad.add j) = some u) (h1 : ∀ u ∈ news, u.oneCell' = true)
  (hm : 0 < m) (hn : n + m ≤ 4000000) (hbase : base ≤ w.heap.size)
  (h : ∀ g cap w', w'.ownsRow base e size (.slice (some ⟨g, 0, none⟩) (n + m) cap) (n + m) (xs ++ news) → Kept w w' (fun k => v.ownBlock = some k) → g < w'.heap.size →
   (v = .slice (some ⟨g, 0, none⟩) n cap ∨ w.heap.size ≤ g ∧ Kept w w' (fun _ => False)) →
   wpList P ops Q rest (a.put o.dst (.slice (some ⟨g, 0, none⟩) (n + m) cap)) w') :
  wpList P ops Q (o :: rest) a w := by
 obtain ⟨i, z, bytes, hi, hz, hsize, hby, hzs, hb⟩ := R.info
 have hbytes : (n + m) * bytes ≤ 140737488355328 := Nat.le_trans (Nat.mul_le_mul hn hb) (by decide)
 have hgrown : ∀ v' w', w'.ownsRow w.heap.size e size v' (n + m) (xs ++ news) → w.grownBy w' none → wpList P ops Q rest (a.put o.dst v') w' := by
  intro v' w' hown' hgr
  rcases hown'.2 with ⟨rfl, h0⟩ | ⟨g, cap, cur, rfl, hb2, hh, _⟩
  ·exact absurd h0 (by omega)
  ·have hk : Kept w w' (fun _ => False) := ⟨hgr.os, hgr.tape, hgr.output, hgr.size, fun k hk _ => hgr.block k hk (by simp)⟩
   exact h g cap w' (own_mono hown' hbase) (hk.mono fun _ _ e => e.elim) (Array.getElem?_eq_some_iff.1 hh).1 (.inr ⟨hb2, hk⟩)
 rcases hown.2 with ⟨e1, e2⟩ | ⟨g, cap, cur, e1, hb2, hh, hnc, hcm, hrest⟩
 ·subst e2
  refine wpList_append_grows w hgd s x t ho e i z size bytes R.ht hi hz hsize hby hzs R.pos none 0 0 xs (by rw [hs, e1]) (fun _ => ⟨rfl, rfl⟩) hown.1 (fun b hb => by cases hb) ad m c news hx hl hnews h1 (by omega) (by unfold maxLen; omega) hbytes hgrown
 ·by_cases hroom : n + m ≤ cap
  ·refine wpList_append_fits w hgd s x t ho base e i size R.ht hi hsize g n cap xs (by rw [hs, e1]) (by rw [← e1]; exact hown) ad m c news hx hl hnews h1 hroom ?_
   intro w' hown' hgr
   have hk : Kept w w' (fun k => v.ownBlock = some k) := ⟨hgr.os, hgr.tape, hgr.output, hgr.size, fun k hk hn => hgr.block k hk fun e => hn (by rw [e1]; exact e.symm)⟩
   have hlt := (Array.getElem?_eq_some_iff.1 hh).1
   exact h g cap w' hown' hk (Nat.lt_of_lt_of_le hlt hk.size) (.inl e1)
  ·refine wpList_append_grows w hgd s x t ho e i z size bytes R.ht hi hz hsize hby hzs R.pos (some ⟨g, 0, none⟩) n cap xs (by rw [hs, e1]) (fun hh => by cases hh) hown.1 (fun b hb => ?_) ad m c news hx hl hnews h1 (by omega) (by unfold maxLen; omega) hbytes hgrown
   cases hb
   rw [e1] at hown
   exact hown.cells (g := g) rfl
theorem wpList_app2_new {w : World} {t e size : Nat} (R : RowTy P t e size) (hgd : o.guard = none) (s x : Operand)
  (ho : o.op = .call { callee := .builtin .append, args := #[s, x], argTypes := #[t, t] })
  (base : Nat) (v : Value) (n : Nat) (xs : List Value) (hs : a.eval s = v) (hown : w.ownsRow base e size v n xs) (cs : List Value) (c : Nat)
  (hx : a.eval x = .slice (some ⟨w.heap.size, 0, none⟩) 1 c) (hl : cs.length = size) (h1 : ∀ u ∈ cs, u.oneCell' = true)
  (hn : n + 1 ≤ 4000000) (hbase : base ≤ w.heap.size)
  (h : ∀ g cap w', w'.ownsRow base e size (.slice (some ⟨g, 0, none⟩) (n + 1) cap) (n + 1) (xs ++ cs) → Kept w w' (fun k => v.ownBlock = some k) → g < w'.heap.size →
   (v = .slice (some ⟨g, 0, none⟩) n cap ∨ w.heap.size ≤ g ∧ Kept w w' (fun _ => False)) →
   wpList P ops Q rest (a.put o.dst (.slice (some ⟨g, 0, none⟩) (n + 1) cap)) w') :
  wpList P ops Q (o :: rest) a (w.alloc (.cells cs.toArray e)) := by
 refine wpList_app2 (w := w.alloc (.cells cs.toArray e)) R hgd s x ho base v n xs hs (hown.alloc _) ⟨w.heap.size, 0, none⟩ 1 c cs hx (by rw [hl]; omega) ?_ h1 (by omega) hn (by simp; omega) ?_
 ·intro j u hj
  have hadd : (⟨w.heap.size, 0, none⟩ : Addr).add j = ⟨w.heap.size, j, none⟩ := by unfold Addr.add; split <;> simp_all
  rw [hadd, cell_of_row _ w.heap.size j cs.toArray e (0, 0) (heap_alloc_new w _)]
  simpa using hj
 ·intro g cap w' hown' hk hg hd
  refine h g cap w' hown' (((Kept.refl w (fun k => v.ownBlock = some k)).alloc (.cells cs.toArray e)).trans hk fun b _ hb => hb) hg ?_
  rcases hd with hd | ⟨h2, h3⟩
  ·exact .inl hd
  ·simp at h2
   exact .inr ⟨by omega, ((Kept.refl w (fun _ => False)).alloc (.cells cs.toArray e)).trans h3 fun _ _ hb => hb⟩
end
structure WwM (w0 wr : World) (g8 : Nat) (X : Nat → Prop) (vv : Value) (vs : List Value) (ds : List (List Int)) : Prop where
 below : Below w0.heap.size w0 wr
 box : Blk wr g8 50 #[vv]
 row : wr.ownsRow w0.heap.size 22 1 vv vs.length vs
 rows : RowsI wr w0.heap.size (fun g => ¬ X g) vs ds
 ge : w0.heap.size ≤ g8
 lt : ∀ g, X g → g < wr.heap.size
section
variable {w0 wr w' : World} {g8 : Nat} {X X' : Nat → Prop} {vv vP : Value} {vs : List Value} {ds : List (List Int)}
theorem WwM.keep (h : WwM w0 wr g8 X vv vs ds) (hb : Below wr.heap.size wr w') : WwM w0 w' g8 X vv vs ds :=
 ⟨h.below.trans (hb.mono h.below.size), h.box.below hb, own_below h.row hb, h.rows.keep (Kept.of_below hb (fun _ => False)) (fun _ _ _ e => e.elim) (fun _ _ x => x) (Nat.le_refl _), h.ge, fun g hg => Nat.lt_of_lt_of_le (h.lt g hg) hb.size⟩
theorem WwM.weak (h : WwM w0 wr g8 X' vv vs ds) (hX : ∀ k, X k → X' k) : WwM w0 wr g8 X vv vs ds :=
 ⟨h.below, h.box, h.row, h.rows.imp fun _ _ ⟨h1, h2⟩ => ⟨h1, fun g hg hx => h2 g hg (hX g hx)⟩, h.ge, fun g hg => h.lt g (hX g hg)⟩
theorem WwM.pre {n : Nat} {xs : List Value} (h : WwM w0 wr g8 X vv vs ds) (hP : wr.ownsRow w0.heap.size 3 1 vP n xs) (hX : ∀ g, vP.ownBlock = some g → X g) (hk : Kept wr w' (fun k => vP.ownBlock = some k)) (hX' : ∀ k, X' k → X k ∨ wr.heap.size ≤ k ∧ k < w'.heap.size) : WwM w0 w' g8 X' vv vs ds := by
 have hty : ∀ {e : TypeId}, e ≠ 3 → ∀ g cs, vP.ownBlock = some g → ¬ Blk wr g e cs := fun h1 g cs e1 hB => own_blk_ne hP hB (fun hh => h1 hh.symm) e1
 refine ⟨h.below.trans (hk.below h.below.size fun b hb e => by have := own_base hP e; omega), h.box.kept hk fun e => hty (by decide) _ _ e h.box, own_ty hk h.row (hty (by decide)),
  h.rows.keep hk (fun g cs hg e hB => hg (hX g e)) (fun g hg hN hx => ?_) (Nat.le_refl _), h.ge, fun k hx => ?_⟩
 ·rcases hX' g hx with hx | ⟨hx, _⟩
  ·exact hN hx
  ·omega
 ·rcases hX' k hx with hx | ⟨_, hx⟩
  ·exact Nat.lt_of_lt_of_le (h.lt k hx) hk.size
  ·exact hx
theorem WwM.add {w1 w2 : World} {v vv' : Value} {d : List Int} (h : WwM w0 wr g8 X vv vs ds) (hb1 : Below wr.heap.size wr w1) (hv : w1.ownsRow wr.heap.size 3 1 v d.length (d.map (Value.int .i64)))
  (hk2 : Kept w1 w2 (fun k => vv.ownBlock = some k)) (ho : w2.ownsRow w0.heap.size 22 1 vv' (vs.length + 1) (vs ++ [v])) : WwM w0 (w2.setCell ⟨g8, 0, none⟩ vv') g8 X vv' (vs ++ [v]) (ds ++ [d]) := by
 have h1 := h.keep hb1
 have n8 := h1.box.kept hk2 (own_blk_ne h1.row h1.box (by decide))
 have hk3 := (Kept.refl w2 (fun k => k = g8)).setCell (p := ⟨g8, 0, none⟩) (fun _ => rfl) vv'
 have hall : Kept w1 (w2.setCell ⟨g8, 0, none⟩ vv') (fun k => vv.ownBlock = some k ∨ k = g8) := (hk2.mono fun _ _ e => .inl e).trans hk3 fun _ _ e => .inr e
 have hty : ∀ {e : TypeId}, e ≠ 22 → e ≠ 50 → ∀ g cs, (vv.ownBlock = some g ∨ g = g8) → ¬ Blk w1 g e cs := by
  rintro e h2 h3 g cs (e1 | e1) hB
  ·exact own_blk_ne h1.row hB (fun hh => h2 hh.symm) e1
  ·exact hB.ne_ h1.box h3 e1
 refine ⟨h1.below.trans (hall.below h1.below.size ?_), n8.set_ 0 vv', ?_, ?_, h.ge, fun k hx => Nat.lt_of_lt_of_le (h1.lt k hx) hall.size⟩
 ·rintro b hb (e | e)
  ·have := own_base h1.row e; omega
  ·have := h.ge; omega
 ·rw [List.length_append]
  exact own_ty hk3 ho (fun g cs e hB => by subst e; exact hB.ne_ n8 (by decide) rfl)
 ·have hr := h1.rows.snoc (own_mono hv h.below.size) (fun g hg e => by
   have h2 := own_base hv hg
   have h3 := h.lt g e
   omega)
  exact hr.keep hall (fun g cs _ e hB => hty (by decide) (by decide) g cs e hB) (fun _ _ x => x) (Nat.le_refl _)
def WsRet (w0 w : World) (g8 : Nat) (X : Nat → Prop) (vv vP : Value) (k : Nat) (P : List Int) (vs : List Value) (ds es : List (List Int)) (w' : World) : Prop :=
 ∃ vv' vs', WwM w0 w' g8 X vv' vs' (ds ++ es) ∧ vs'.length = vs.length + es.length ∧ Moved w vv vv' ∧ Kept w w' (fun k => k = g8 ∨ vv.ownBlock = some k ∨ vP.ownBlock = some k) ∧ w'.ownsRow w0.heap.size 3 1 vP k (P.map (Value.int .i64))
end
end Go.Proofs.YtpmceapjnnkhjaaDoor
namespace Go.Proofs.YtpmceapjnnkhjaaDoor
open Go.RowKit
set_option maxHeartbeats 16000000
set_option maxRecDepth 100000
theorem words_leaf {w0 w : World} {g2 g3 g7 g8 g9 k cM : Nat} {x0 x1 x2 x3 vv vP : Value} {a : NF} {AM : Option Addr} {ms P : List Int} {vs : List Value} {ds : List (List Int)} {X : Nat → Prop} (hW : WwM w0 w g8 X vv vs ds) (hP : w.ownsRow w0.heap.size 3 1 vP k (P.map (Value.int .i64))) (hk : k = P.length) (hk6 : k ≤ 100)
  (h3 : Blk w g3 3 #[.int .i64 (k : Int)]) (h7 : Blk w g7 79 #[x0, x1, x2, x3]) (hNF : IsNF w w.heap.size (.agg #[x0, x1, x2, x3]) a) (ha : a.acc.length = a.n) (hM : Sl w w.heap.size 1 encI AM ms) (hm : 0 < ms.length) (hin : ∀ x ∈ ms, inN a.n x = true) (hvs : vs.length + 1 ≤ 4000000) :
  Calls Tryd.prog 71 #[vP, .slice AM ms.length cM, .pointer (some ⟨g3, 0, none⟩), .pointer (some ⟨g7, 0, none⟩), .pointer (some ⟨g8, 0, none⟩), .pointer (some ⟨g2, 0, none⟩), .pointer (some ⟨g9, 0, none⟩)] w (Ret fun _ w' => WsRet w0 w g8 X vv vP k P vs ds (if ms.any (fun x => a.acc.getD x.toNat false) then [P] else []) w') := by
 have hacc := accepting_any (c := cM) hNF ha hM (Nat.le_refl _) hin
 have hWH := hide hW
 have hPH := hide hP
 have hkH := hide hk
 have hM1 := hM.1
 have f3 := h3.cell
 have f7 := h7.cell
 have f8 := hW.box.cell
 obtain ⟨AP, cP, rfl⟩ := slice_of_own hP
 obtain ⟨lm, hlm⟩ : ∃ lm, lm = ms.length := ⟨_, rfl⟩
 rw [← hlm] at hacc hM1 hm ⊢
 obtain ⟨b, hb⟩ : ∃ b, ms.any (fun x => a.acc.getD x.toNat false) = b := ⟨_, rfl⟩
 rw [hb] at hacc ⊢
 have hne : ((lm : Int) == 0) = false := by simp; omega
 clear hW hP hk hNF ha hM hin hlm hb
 go_enter Tryd.func71, Tryd.ntmps71
 go_wp2_with fail
 refine Calls.ret hacc ?_
 rintro r w1 ⟨rfl, hb1⟩
 have hb1H := hide hb1
 have hW1 := hide (hWH.out.keep hb1)
 have hP1 := hide (own_below hPH.out hb1)
 clear hacc hb1 f3 f7 f8
 cases b
 ·go_wp2_with fail
  refine bodyPost_ret (v := .tuple #[]) (by simp [results, Tryd.results71, go_sem]) rfl ?_
  exact ⟨vv, vs, by simpa using hW1.out, by simp, Moved.refl _ _, Kept.of_below hb1H.out _, hP1.out⟩
 ·have f8 := hW1.out.box.cell
  have hcl := clone_any (w := w1.drew) (own_below hP1.out (drewB w1)) hkH.out (by omega)
  have hW2 := hide (hW1.out.keep (drewB w1))
  have hP2 := hide (own_below hP1.out (drewB w1))
  clear hP1
  have hvv := hW1.out.row
  obtain ⟨AV, cV, rfl⟩ := slice_of_own hvv
  obtain ⟨nv, hnv⟩ : ∃ nv, nv = vs.length := ⟨_, rfl⟩
  rw [← hnv] at f8 hvs
  have hnvH := hide hnv
  clear hvv hnv
  go_wp2_with fail
  refine Reg.cC [0, 0, 2, 6, 15, 31] [0, 1, 2, 3, 4, 5] ?_
  refine Reg.rest_walk' [0, 1] [2, 3, 4, 5] rfl (by kernel_rfl) ?_
  intro Qf hQf
  go_wp2_with fail
  first | refine hQf _ _ ?_ | skip
  try clear hQf
  refine Reg.rest_act' 2 [3, 4, 5] [0] rfl (by kernel_rfl) ?_
  intro Qf hQf
  simp only [gT, gS, gZ]
  go_wp2_with fail
  refine Calls.ret hcl ?_
  rintro vC w2 ⟨hb2, hown2⟩
  have hW3 := hide (hW2.out.keep hb2)
  have hb2H := hide hb2
  have hownH := hide hown2
  obtain ⟨AC, cC, rfl⟩ := slice_of_own hown2
  have hrow := hW3.out.row
  rw [← hnvH.out] at hrow
  have hsz := hW3.out.below.size
  go_wp2_with fail
  first | refine hQf _ _ ⟨Reg.same_below hb2 [0] rfl, ?_⟩ | refine ⟨Reg.same_below hb2 [0] rfl, ?_⟩
  try clear hQf
  clear hcl hb2 hown2
  refine Reg.rest_walk' [3] [4, 5] rfl (by kernel_rfl) ?_
  intro Qf hQf
  go_wp2_with fail
  first | refine hQf _ _ ?_ | skip
  try clear hQf
  refine Reg.rest_act' 4 [5] [] rfl (by kernel_rfl) ?_
  intro Qf hQf
  simp only [gT, gS, gZ]
  refine wpList_app_new (w := w2) row22 rfl _ _ rfl w0.heap.size (.slice AV nv cV) nv _ rfl hrow [.slice AC k cC] 1 rfl rfl (by simp [Value.oneCell']) hvs hsz ?_
  intro g5 cap5 w5 hown5 hk5 hmv5 hg5
  have hk5' : Kept w2 w5 (fun j => (Value.slice AV vs.length cV).ownBlock = some j) := by rw [← hnvH.out]; exact hk5
  have hb8 := hW3.out.box.kept hk5' (own_blk_ne hW3.out.row hW3.out.box (by decide))
  have q1 := hb8.frozen 0
  have q2 := hb8.lt
  have q3 := hb8.cell
  have hJ := hide (hW2.out.add (d := P) (vv' := .slice (some ⟨g5, 0, none⟩) (nv + 1) cap5) hb2H.out (by rw [← hkH.out]; exact hownH.out) hk5' (by rw [← hnvH.out]; exact hown5))
  have hKs : Hid (Kept w (w5.setCell ⟨g8, 0, none⟩ (.slice (some ⟨g5, 0, none⟩) (nv + 1) cap5)) (fun j => j = g8 ∨ (Value.slice AV nv cV).ownBlock = some j ∨ (Value.slice AP k cP).ownBlock = some j)) := by
   have e1 : Below w.heap.size w w2 := hb1H.out.trans (((drewB w1).mono hb1H.out.size).trans (hb2H.out.mono hb1H.out.size))
   have e2 := (Kept.refl w5 (fun j => j = g8)).setCell (p := ⟨g8, 0, none⟩) (fun _ => rfl) (.slice (some ⟨g5, 0, none⟩) (nv + 1) cap5)
   exact ((Kept.of_below e1 _).trans (hk5.mono fun _ _ e => .inr (.inl e)) fun _ _ e => e).trans (e2.mono fun _ _ e => .inl e) fun _ _ e => e
  have hMv : Hid (Moved w (.slice AV nv cV) (.slice (some ⟨g5, 0, none⟩) (nv + 1) cap5)) := by
   show Moved _ _ _
   rcases hmv5 with e | ⟨g, e, hg⟩
   ·exact .inl e
   ·exact .inr ⟨g, e, by have h1 := hb1H.out.size; have h2 : w1.heap.size ≤ w2.heap.size := hb2H.out.size; omega⟩
  have hP5 : Hid ((w5.setCell ⟨g8, 0, none⟩ (.slice (some ⟨g5, 0, none⟩) (nv + 1) cap5)).ownsRow w0.heap.size 3 1 (.slice AP k cP) k (P.map (Value.int .i64))) := by
   have e1 := own_below hP2.out hb2H.out
   have e2 := own_ty hk5' e1 (fun g cs e hB => own_blk_ne hW3.out.row hB (by decide) e)
   exact own_ty ((Kept.refl w5 (fun j => j = g8)).setCell (p := ⟨g8, 0, none⟩) (fun _ => rfl) _) e2 (fun g cs e hB => by subst e; exact hB.ne_ hb8 (by decide) rfl)
  refine hQf _ _ ⟨Reg.nm, ?_⟩
  clear hQf hown5 hk5 hk5' hmv5 hb8 hrow
  refine Reg.rest_act' 5 [] [] rfl (by kernel_rfl) ?_
  intro Qf hQf
  simp only [gT, gS, gZ]
  go_wp2_with fail
  first | refine hQf _ _ ⟨Reg.nm, ?_⟩ | refine ⟨Reg.nm, ?_⟩
  try clear hQf
  refine Reg.rest_end ?_
  go_wp2_with fail
  refine bodyPost_ret (v := .tuple #[]) (by simp [results, Tryd.results71, go_sem]) rfl ?_
  exact ⟨_, _, hJ.out, by simp, by rw [← hnvH.out]; exact hMv.out, by rw [← hnvH.out]; exact hKs.out, hP5.out⟩
end Go.Proofs.YtpmceapjnnkhjaaDoor
namespace Go.Proofs.YtpmceapjnnkhjaaDoor
open Go.RowKit
set_option maxHeartbeats 16000000
set_option maxRecDepth 100000
theorem words_dead {w0 w : World} {g2 g3 g7 g8 g9 k cM : Nat} {vv vP : Value} {AM : Option Addr} {vs : List Value} {ds : List (List Int)} {X : Nat → Prop} {P : List Int} (hW : WwM w0 w g8 X vv vs ds) (hP : w.ownsRow w0.heap.size 3 1 vP k (P.map (Value.int .i64))) :
  Calls Tryd.prog 71 #[vP, .slice AM 0 cM, .pointer (some ⟨g3, 0, none⟩), .pointer (some ⟨g7, 0, none⟩), .pointer (some ⟨g8, 0, none⟩), .pointer (some ⟨g2, 0, none⟩), .pointer (some ⟨g9, 0, none⟩)] w (Ret fun _ w' => WsRet w0 w g8 X vv vP k P vs ds [] w') := by
 have hWH := hide hW
 have hPH := hide hP
 obtain ⟨AP, cP, rfl⟩ := slice_of_own hP
 clear hW hP
 go_enter Tryd.func71, Tryd.ntmps71
 go_wp2_with fail
 refine bodyPost_ret (v := .tuple #[]) (by simp [results, Tryd.results71, go_sem]) rfl ?_
 exact ⟨vv, vs, by simpa using hWH.out, by simp, Moved.refl _ _, Kept.refl _ _, hPH.out⟩
end Go.Proofs.YtpmceapjnnkhjaaDoor
namespace Go.Proofs.YtpmceapjnnkhjaaDoor
open Go.RowKit
set_option maxHeartbeats 16000000
set_option maxRecDepth 100000
section
variable {w0 w wr w2 w3 w4 : World} {g8 g cap k : Nat} {X : Nat → Prop} {vv vv1 vP : Value} {vs vs1 : List Value} {ds e1 es : List (List Int)} {P : List Int} {x : Int}
theorem ws_pre {ds1 : List (List Int)} {xs : List Value} (hR : WwM w0 wr g8 X vv1 vs1 ds1) (hP : wr.ownsRow w0.heap.size 3 1 vP k xs) (hX : ∀ g, vP.ownBlock = some g → X g) (hk : Kept wr w2 (fun j => vP.ownBlock = some j)) (hg : g < w2.heap.size)
  (hd : vP = .slice (some ⟨g, 0, none⟩) k cap ∨ wr.heap.size ≤ g ∧ Kept wr w2 (fun _ => False)) : WwM w0 w2 g8 (fun j => X j ∨ j = g) vv1 vs1 ds1 :=
 hR.pre hP hX hk fun j hj => by
  rcases hj with hj | rfl
  ·exact .inl hj
  ·rcases hd with hd | ⟨hd, _⟩
   ·exact .inl (hX _ (by rw [hd]; rfl))
   ·exact .inr ⟨hd, hg⟩
theorem ws_post (hl1 : vs1.length = vs.length + e1.length) (hm1 : Moved w vv vv1) (hk1 : Kept w wr (fun j => j = g8 ∨ vv.ownBlock = some j ∨ vP.ownBlock = some j)) (hP1 : wr.ownsRow w0.heap.size 3 1 vP k (P.map (Value.int .i64)))
  (hk2 : Kept wr w2 (fun j => vP.ownBlock = some j)) (hd : vP = .slice (some ⟨g, 0, none⟩) k cap ∨ wr.heap.size ≤ g ∧ Kept wr w2 (fun _ => False)) (hb3 : Below w2.heap.size w2 w3) (hW3 : WwM w0 w3 g8 (fun j => X j ∨ j = g) vv1 vs1 (ds ++ e1))
  (hC : WsRet w0 w3 g8 (fun j => X j ∨ j = g) vv1 (.slice (some ⟨g, 0, none⟩) (k + 1) cap) (k + 1) (P ++ [x]) vs1 (ds ++ e1) es w4) : WsRet w0 w g8 X vv vP k P vs ds (e1 ++ es) w4 := by
 obtain ⟨vv', vs', hW, hl, hm, hk, hP'⟩ := hC
 have s1 := hk1.size
 have s2 := hk2.size
 have s3 := hb3.size
 have hk3 : Kept wr w3 (fun j => vP.ownBlock = some j) := hk2.trans (Kept.of_below hb3 (fun _ => False)) fun _ _ e => e.elim
 refine ⟨vv', vs', by rw [← List.append_assoc]; exact hW.weak fun _ e => .inl e, by rw [hl, hl1, List.length_append]; omega, hm1.trans (by omega) hm, (hk1.trans hk3 fun _ _ e => .inr (.inr e)).trans hk ?_, ?_⟩
 ·rintro b hb (e | e | e)
  ·exact .inl e
  ·rcases hm1 with h1 | ⟨g', h1, h2⟩
   ·exact .inr (.inl (by rw [← h1]; exact e))
   ·rw [e] at h1
    injection h1 with h1
    omega
  ·have e : g = b := by simpa [Value.ownBlock] using e
   subst e
   rcases hd with hd | ⟨hd, _⟩
   ·exact .inr (.inr (by rw [hd]; rfl))
   ·omega
 ·rcases hd with hd | ⟨hd, hkF⟩
  ·rw [hd]
   have h1 := own_shrink hP' (m := k) (by omega)
   rw [List.map_append, Nat.mul_one, List.take_left' (by have := hP1.1; omega)] at h1
   exact h1
  ·have h1 := own_below (hkF.ownsRow hP1 fun _ _ e => e) hb3
   refine hk.ownsRow h1 ?_
   rintro j hj (e | e | e)
   ·subst e
    exact own_blk_ne h1 hW3.box (by decide) hj
   ·exact own_own_ne h1 hW3.row (by decide) hj e
   ·have e : g = j := by simpa [Value.ownBlock] using e
    have := own_lt hP1 hj
    omega
end
section
variable (a : NF)
def NF.fl (p : List Nat) (r x : Nat) : List (List Int) := ((List.range x).flatMap fun y => a.wordsB (p ++ [y]) r).map natL
theorem NF.fl_zero (p : List Nat) (r : Nat) : a.fl p r 0 = [] := rfl
theorem NF.fl_succ (p : List Nat) (r x : Nat) : a.fl p r (x + 1) = a.fl p r x ++ (a.wordsB (p ++ [x]) r).map natL := by
 unfold NF.fl
 rw [List.range_succ, List.flatMap_append, List.map_append]
 simp
theorem NF.fl_all (p : List Nat) (r : Nat) : a.fl p r a.L = (a.wordsB p (r + 1)).map natL := by
 unfold NF.fl
 rw [NF.wordsB_succ]
theorem NF.wordsB_len (p : List Nat) (r : Nat) : (a.wordsB p r).length ≤ a.L ^ r := by
 unfold NF.wordsB
 refine Nat.le_trans (List.length_filter_le _ _) ?_
 rw [extK_count]
 simp
theorem NF.fl_len (p : List Nat) (r : Nat) : ∀ x, (a.fl p r x).length ≤ x * a.L ^ r
 | 0 => by simp [NF.fl]
 | x + 1 => by
  rw [NF.fl_succ, List.length_append, List.length_map, Nat.succ_mul]
  exact Nat.add_le_add (NF.fl_len p r x) (a.wordsB_len _ r)
theorem NF.dead_set {a : NF} {p : List Nat} (h : (setL (runW a.after a.st p)).length = 0) : a.liv p = false := by
 rcases hl : a.liv p with _ | _
 ·rfl
 ·obtain ⟨s, hs, h1⟩ := some_iff.1 hl
  have : (s : Int) ∈ setL (runW a.after a.st p) := mem_setL.2 ⟨s, rfl, by
   obtain ⟨b, hb⟩ := get_lt hs
   rw [getD_some hb] at h1
   rw [hb, h1]⟩
  rw [List.length_eq_zero_iff.1 h] at this
  exact absurd this List.not_mem_nil
end
end Go.Proofs.YtpmceapjnnkhjaaDoor
namespace Go.Proofs.YtpmceapjnnkhjaaDoor
open Go.RowKit
set_option maxHeartbeats 16000000
set_option maxRecDepth 100000
namespace Reg
theorem same_loadA {P : Program} {ops : Array Oper} {q : Oper} {b : Act} {w w' : World} {ty : TypeId} {x : Operand} {g o : Nat} {cs : List Value} {d : TypeDesc} (ho : q.op = .load ty x) (hx : b.eval x = .pointer (some ⟨g, o, none⟩))
  (hc : w.rangeAt g o cs) (hc' : w'.rangeAt g o cs) (hu : P.underlying ty = some d) (hd : d.isRow = true) (hi : (P.info? ty).map (·.size) = some cs.length) : Same P ops q b w w' := by
 intro _ v hv
 obtain ⟨dst, op, type, pos, after, guard⟩ := q
 dsimp only at ho
 subst ho
 have e : ∀ w1 : World, w1.rangeAt g o cs → (execOp b.eval { dst, op := .load ty x, type, pos, after, guard }).run P w1 = .ok (.value (.agg cs.toArray)) w1 := fun w1 h => by
  show ((Instr.loadAt ty (b.eval x)) >>= fun v => (Pure.pure (Next.value v) : Sem Next)).run P w1 = _
  rw [hx]
  exact run_value (run_loadAt_mid w1 g o ty cs d h hu hd hi)
 rw [e w hc] at hv
 injection hv with hv _
 rw [← hv]
 exact e w' hc'
end Reg
theorem Blk.rangeA {w : World} {g : Nat} {t : TypeId} {cs : Array Value} (h : Blk w g t cs) : w.rangeAt g 0 cs.toList := fun j v hv => by
 rw [Nat.zero_add, h.cell]
 simpa using hv
def cloW (g2 g3 g7 g8 g9 : Nat) : Value := .func (.func 71) #[] #[.pointer (some ⟨g3, 0, none⟩), .pointer (some ⟨g7, 0, none⟩), .pointer (some ⟨g8, 0, none⟩), .pointer (some ⟨g2, 0, none⟩), .pointer (some ⟨g9, 0, none⟩)]
def WordsC (w0 : World) (g2 g3 g7 g8 g9 len : Nat) (a : NF) (r : Nat) : Prop :=
 ∀ (w : World) (X : Nat → Prop) (vv vP vM : Value) (vs : List Value) (ds : List (List Int)) (p : List Nat) (k n : Nat), WwM w0 w g8 X vv vs ds → w.ownsRow w0.heap.size 3 1 vP k ((natL p).map (Value.int .i64)) → p.length = k → k + r = len → (∀ g, vP.ownBlock = some g → X g) → okW a.L p →
  w.ownsRow w0.heap.size 3 1 vM n ((setL (runW a.after a.st p)).map (Value.int .i64)) → (∀ g, vM.ownBlock = some g → ¬ X g) → Blk w g9 98 #[cloW g2 g3 g7 g8 g9] → vs.length + a.L ^ r ≤ 4000000 →
  Calls Tryd.prog 71 #[vP, vM, .pointer (some ⟨g3, 0, none⟩), .pointer (some ⟨g7, 0, none⟩), .pointer (some ⟨g8, 0, none⟩), .pointer (some ⟨g2, 0, none⟩), .pointer (some ⟨g9, 0, none⟩)] w (Ret fun _ w' => WsRet w0 w g8 X vv vP k (natL p) vs ds ((a.wordsB p r).map natL) w')
structure WwC (w0 : World) (g2 g3 g7 len : Nat) (a : NF) : Prop where
 b2 : ∃ y1 y2 y3 y4, Blk w0 g2 25 #[.int .i64 (a.L : Int), y1, y2, y3, y4]
 b3 : Blk w0 g3 3 #[.int .i64 (len : Int)]
 b7 : ∃ x0 x1 x2 x3, Blk w0 g7 79 #[x0, x1, x2, x3] ∧ IsNF w0 w0.heap.size (.agg #[x0, x1, x2, x3]) a
 ok : a.OK
 L : a.L ≤ 8
 cat : ∀ m x, m.length = a.n → x < a.L → (a.cat (setL m) x).length ≤ 4000000
theorem words_loop {w0 w : World} {g2 g3 g7 g8 g9 k n cM cP r len : Nat} {vv : Value} {AP AM : Option Addr} {a : NF} {p : List Nat} {vs : List Value} {ds : List (List Int)} {X : Nat → Prop}
  (hC : WwC w0 g2 g3 g7 len a) (hrec : WordsC w0 g2 g3 g7 g8 g9 len a r) (hW : WwM w0 w g8 X vv vs ds) (hP : w.ownsRow w0.heap.size 3 1 (.slice AP k cP) k ((natL p).map (Value.int .i64))) (hpl : p.length = k) (hkr : k + (r + 1) = len) (hX : ∀ g, (Value.slice AP k cP).ownBlock = some g → X g) (hpok : okW a.L p)
  (hS : w.ownsRow w0.heap.size 3 1 (.slice AM n cM) n ((setL (runW a.after a.st p)).map (Value.int .i64))) (hSX : ∀ g, (Value.slice AM n cM).ownBlock = some g → ¬ X g) (h9 : Blk w g9 98 #[cloW g2 g3 g7 g8 g9]) (hvs : vs.length + a.L ^ (r + 1) ≤ 4000000) (hk6 : k ≤ 100) (hn6 : n ≤ 4000000)
  {u7 u8 u9 u10 u11 u12 u13 u14 u15 u16 u17 u18 u19 u20 u21 u22 u23 u24 u25 u28 u29 u30 u31 u32 u33 u34 u35 u36 u37 u38 u39 u40 : Value}
  {Q : Exit → Act → World → Prop} (hN : Reg.NoQ Q)
  (hQ : ∀ (x9 x27 x28 x29 x30 x31 x32 x33 x34 x35 x36 x37 x38 x39 x40 : Value) (w' : World), WsRet w0 w g8 X vv (.slice AP k cP) k (natL p) vs ds ((a.wordsB p (r + 1)).map natL) w' → Q (.exit 0) ⟨List.toArray ((.slice AP k cP) :: (.slice AM n cM) :: (.pointer (some ⟨g3, 0, none⟩)) :: (.pointer (some ⟨g7, 0, none⟩)) :: (.pointer (some ⟨g8, 0, none⟩)) :: (.pointer (some ⟨g2, 0, none⟩)) :: (.pointer (some ⟨g9, 0, none⟩)) :: u7 :: u8 :: x9 :: u10 :: u11 :: u12 :: u13 ::
   u14 :: u15 :: u16 :: u17 :: u18 :: u19 :: u20 :: u21 :: u22 :: u23 :: u24 :: u25 :: (.int .i64 (a.L : Int)) :: x27 :: x28 :: x29 :: x30 :: x31 :: x32 :: x33 :: x34 :: x35 :: x36 :: x37 :: x38 :: x39 :: x40 :: []), []⟩ w') :
  (Code.loop (loopBody Tryd.f71 0)).wp Tryd.prog Q ⟨List.toArray ((.slice AP k cP) :: (.slice AM n cM) :: (.pointer (some ⟨g3, 0, none⟩)) :: (.pointer (some ⟨g7, 0, none⟩)) :: (.pointer (some ⟨g8, 0, none⟩)) :: (.pointer (some ⟨g2, 0, none⟩)) :: (.pointer (some ⟨g9, 0, none⟩)) :: u7 :: u8 :: u9 :: u10 :: u11 :: u12 :: u13 ::
   u14 :: u15 :: u16 :: u17 :: u18 :: u19 :: u20 :: u21 :: u22 :: u23 :: u24 :: u25 :: (.int .i64 (a.L : Int)) :: (.int .i64 0) :: u28 :: u29 :: u30 :: u31 :: u32 :: u33 :: u34 :: u35 :: u36 :: u37 :: u38 :: u39 :: u40 :: []), []⟩ w := by
 conv => arg 2; arg 1; whnf
 have hml : (runW a.after a.st p).length = a.n := a.run_len hpok
 have hmlH := hide hml
 have hCH := hide hC
 have hrecH := hide hrec
 have hWH := hide hW
 have hPH := hide hP
 have hplH := hide hpl
 have hXH := hide hX
 have hpokH := hide hpok
 have hSH := hide hS
 have hSXH := hide hSX
 have h9H := hide h9
 have hvsH := hide hvs
 have hk0 := Kept.refl w (fun j => j = g8 ∨ vv.ownBlock = some j ∨ (Value.slice AP k cP).ownBlock = some j)
 have hstart : Hid (WsRet w0 w g8 X vv (.slice AP k cP) k (natL p) vs ds (a.fl p r 0) w) := ⟨vv, vs, by rw [a.fl_zero, List.append_nil]; exact hW, by rw [a.fl_zero]; rfl, Moved.refl _ _, hk0, hP⟩
 obtain ⟨L, hL⟩ : ∃ L, L = a.L := ⟨_, rfl⟩
 have hL8 : L ≤ 8 := by rw [hL]; exact hC.L
 rw [← hL]
 simp only [← hL] at hQ
 have hLH := hide hL
 clear hC hrec hW hP hpl hX hpok hS hSX h9 hvs hk0 hL hml
 have hmf := run_mf
 go_loopw [27] (fun ii wr => ∃ (x : Nat), ii = .int .i64 (x : Int) ∧ x ≤ L ∧ Hid (WsRet w0 w g8 X vv (.slice AP k cP) k (natL p) vs ds (a.fl p r x) wr)) (fun ii _ => L - (intOf ii).toNat)
 case atStart => exact ⟨0, rfl, Nat.zero_le _, hstart⟩
 case round =>
  obtain ⟨x, rfl, hx, hI⟩ := hrel
  by_cases hlt : x < L
  ·obtain ⟨vv1, vs1, hW1, hl1, hm1, hk1, hP1⟩ := hI.out
   obtain ⟨x0, x1, x2, x3, hb7, hNF⟩ := hCH.out.b7
   have c9 : Blk wr g9 98 #[cloW g2 g3 g7 g8 g9] := h9H.out.kept hk1 (by
    rintro (e | e | e)
    ·exact h9H.out.ne_ hWH.out.box (by decide) e
    ·exact own_blk_ne hWH.out.row h9H.out (by decide) e
    ·exact own_blk_ne hPH.out h9H.out (by decide) e)
   have hS1 : wr.ownsRow w0.heap.size 3 1 (.slice AM n cM) n ((setL (runW a.after a.st p)).map (Value.int .i64)) := hk1.ownsRow hSH.out (by
    rintro g hg (e | e | e)
    ·subst e; exact own_blk_ne hSH.out hWH.out.box (by decide) hg
    ·exact own_own_ne hSH.out hWH.out.row (by decide) hg e
    ·exact hSXH.out g hg (hXH.out g e))
   have c7 : Blk wr g7 79 #[x0, x1, x2, x3] := hb7.below hW1.below
   have f9 := c9.cell
   have f7 := c7.cell
   have c9H := hide c9
   have c7H := hide c7
   have hS1H := hide hS1
   have hNFH := hide hNF
   have hP1H := hide hP1
   have hW1H := hide hW1
   have hl1H := hide hl1
   have hm1H := hide hm1
   have hk1H := hide hk1
   have hsz := hW1.below.size
   have hPd : wr.drew.ownsRow w0.heap.size 3 1 (.slice AP k cP) k ((natL p).map (Value.int .i64)) := hP1
   clear hI hW1 hl1 hm1 hk1 hP1 hb7 hNF c9 hS1 c7
   go_wp2_with fail
   refine Reg.cC [0, 0, 0, 4, 14, 0, 0, 0, 254, 511] [0, 1, 2, 5, 6, 7, 3, 4, 8, 9] ?_ (by kernel_rfl) (by repeat (first | exact hN | refine Reg.NoQ.then ?_ | refine Reg.NoQ.inBlock ?_))
   refine Reg.rest_walk' [0, 1, 2, 5, 6, 7, 3] [4, 8, 9] rfl (by kernel_rfl) ?_
   intro Qf hQf
   go_wp2_with fail
   first | refine hQf _ _ ?_ | skip
   try clear hQf
   refine Reg.rest_act' 4 [8, 9] [0, 5] rfl (by kernel_rfl) ?_
   intro Qf hQf
   simp only [gT, gS, gZ]
   refine wpList_app2_new (w := wr.drew) row3 rfl _ _ rfl w0.heap.size (.slice AP k cP) k _ rfl hPd [.int .i64 (x : Int)] 1 rfl rfl (by simp [Value.oneCell']) (by omega) hsz ?_
   intro g cap w2 hown2 hk2 hg2 hd2
   have hk2' : Kept wr w2 (fun j => (Value.slice AP k cP).ownBlock = some j) := ⟨hk2.os, hk2.tape, hk2.output, hk2.size, hk2.block⟩
   have hd2' : Value.slice AP k cP = .slice (some ⟨g, 0, none⟩) k cap ∨ wr.heap.size ≤ g ∧ Kept wr w2 (fun _ => False) := by
    rcases hd2 with h | ⟨h1, h2⟩
    ·exact .inl h
    ·exact .inr ⟨h1, h2.os, h2.tape, h2.output, h2.size, h2.block⟩
   have n9 := c9H.out.kept hk2' (own_blk_ne hP1H.out c9H.out (by decide))
   have n7 := c7H.out.kept hk2' (own_blk_ne hP1H.out c7H.out (by decide))
   have hka : Kept wr (wr.drew.alloc (.cells #[.int .i64 (x : Int)] 3)) (fun _ => False) := ((Kept.refl wr (fun _ => False)).drew).trans ((Kept.refl wr.drew (fun _ => False)).alloc _) (fun _ _ e => e)
   have m9 := c9H.out.kept hka id
   have m7 := c7H.out.kept hka id
   have hS2 : w2.ownsRow w0.heap.size 3 1 (.slice AM n cM) n ((setL (runW a.after a.st p)).map (Value.int .i64)) := hk2'.ownsRow hS1H.out (fun j hj e => hSXH.out j hj (hXH.out j e))
   have hW2 := hide (ws_pre (g := g) hW1H.out hP1H.out hXH.out hk2' hg2 hd2')
   have hS2H := hide hS2
   have hk2H := hide hk2'
   have hd2H := hide hd2'
   have hown2H := hide hown2
   refine hQf _ _ ⟨?_, ?_⟩
   ·intro z hz q hq
    simp only [List.mem_cons, List.not_mem_nil, or_false] at hz
    rcases hz with rfl | rfl
    ·injection hq with hq
     subst hq
     exact Reg.same_load1 rfl rfl (m9.cell 0) (n9.cell 0) Tryd.underlying98 rfl
    ·injection hq with hq
     subst hq
     exact Reg.same_loadA rfl rfl m7.rangeA n7.rangeA Tryd.underlying79 rfl (by kernel_rfl)
   ·clear hQf hk2 hk2' hd2 hd2' n9 n7 hka m9 m7 hS2 hown2 hPd f9 f7
    have hsw2 := hW2.out.below.size
    obtain ⟨A', c', e', hSl⟩ := own_slI (B := w2.heap.size) hS2H.out (by have := hS2H.out.1; simpa using this) (Nat.le_refl _) (by omega)
    have hne : n = (setL (runW a.after a.st p)).length := by have := hS2H.out.1; simp at this; omega
    injection e' with e1 e2 e3
    subst e1
    have hst := step_any (c := cM) (x := x) (hNFH.out.keep (w' := w2) (fun q hq => hW2.out.below.cell hq) hW2.out.below.size) hCH.out.ok hmlH.out hSl (Nat.le_refl _) (by rw [← hLH.out]; exact hlt) (hCH.out.cat _ x hmlH.out (by rw [← hLH.out]; exact hlt))
    rw [← hne] at hst
    clear hSl e2 e3 hne
    refine Reg.rest_act' 8 [9] [0] rfl (by kernel_rfl) ?_
    intro Qf hQf
    simp only [gT, gS, gZ]
    go_wp2_with fail
    refine Calls.ret hst ?_
    rintro vS w3 ⟨hownS, hb3⟩
    have hb3H := hide hb3
    have hW3 := hide (hW2.out.keep hb3)
    have hownSH := hide hownS
    obtain ⟨AS, cS, rfl⟩ := slice_of_own hownS
    go_wp2_with fail
    first | refine hQf _ _ ⟨Reg.same_below hb3 [0] rfl, ?_⟩ | refine ⟨Reg.same_below hb3 [0] rfl, ?_⟩
    try clear hQf
    clear hst hb3 hownS
    have hcall := hrecH.out w3 (fun j => X j ∨ j = g) vv1 (.slice (some ⟨g, 0, none⟩) (k + 1) cap) (.slice AS (setL (a.after (runW a.after a.st p) x)).length cS) vs1 (ds ++ a.fl p r x) (p ++ [x]) (k + 1) (setL (a.after (runW a.after a.st p) x)).length hW3.out
     (by rw [natL_snoc, List.map_append]; exact own_below hown2H.out hb3H.out) (by rw [List.length_append, hplH.out]; rfl) (by omega) (fun j hj => .inr (by simpa [Value.ownBlock] using hj.symm)) (hpokH.out.snoc (by rw [← hLH.out]; exact hlt))
     (by rw [runW_snoc]; exact own_mono hownSH.out hsw2) (fun j hj hx => by have h1 := own_base hownSH.out hj; have h2 := hW2.out.lt j hx; omega)
     ((c9H.out.kept hk2H.out (own_blk_ne hP1H.out c9H.out (by decide))).below hb3H.out) (by
      have h1 := hvsH.out
      have h2 := a.fl_len p r x
      have h3 := hl1H.out
      rw [Nat.pow_succ, Nat.mul_comm, ← hLH.out] at h1
      rw [← hLH.out] at h2 ⊢
      have h4 : (x + 1) * L ^ r ≤ L * L ^ r := Nat.mul_le_mul_right _ hlt
      rw [Nat.succ_mul] at h4
      omega)
    rw [natL_snoc] at hcall
    refine Reg.rest_act' 9 [] [] rfl (by kernel_rfl) ?_
    intro Qf hQf
    simp only [gT, gS, gZ]
    unfold cloW
    go_wp2_with fail
    refine Calls.ret hcall ?_
    rintro rr w4 hret
    have hfin := hide (ws_post hl1H.out hm1H.out hk1H.out hP1H.out hk2H.out hd2H.out hb3H.out hW3.out hret)
    clear hcall hret
    go_wp2_with fail
    first | refine hQf _ _ ⟨Reg.nm, ?_⟩ | refine ⟨Reg.nm, ?_⟩
    try clear hQf
    refine Reg.rest_end ?_
    go_wp2_with fail
    exact ⟨⟨x + 1, by go_num, by omega, by rw [a.fl_succ]; exact hfin⟩, by simp [intOf]; omega⟩
  ·obtain rfl : x = L := by omega
   have hfin := hI.out
   rw [hLH.out, a.fl_all] at hfin
   have hfinH := hide hfin
   clear hfin hI
   go_wp2_with fail
   first | exact hfinH.out | exact hQ _ _ _ _ _ _ _ _ _ _ _ _ _ _ _ wr hfinH.out
end Go.Proofs.YtpmceapjnnkhjaaDoor
