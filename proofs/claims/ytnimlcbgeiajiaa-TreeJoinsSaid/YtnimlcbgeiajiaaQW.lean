/-
  The reference's pairs: their memory, and pairs.number: the walks.
  The reference's join: the loops that find the pairs.
  The reference's join: the rounds.
  The reference's join: the table of the pairs is filled.
  The reference's join: the outer loops that fill the table, and its marks.
  The reference's join: the walk joined.
-/
import Derived.Test.YtnimlcbgeiajiaaQI
import Derived.Test.YtnimlcbgeiajiaaQJ
import Derived.Test.YtnimlcbgeiajiaaQG

namespace Go.Proofs.Ytnimlcbgeiajiaa
open Go.RowKit

theorem meet_newP {D : Type} [DecidableEq D] {l : List D} {c : D} (h : c ∉ l) : meetL l c = l ++ [c] := by unfold meetL; rw [if_neg h]
/-- The pairs that have been met: two rows of numbers. -/
structure PairsS (w : World) (base gp : Nat) (va vb : Value) (l : List (Nat × Nat)) : Prop where
  blk : Blk w gp 128 #[va, vb]
  owa : w.ownsRow base 3 1 va l.length (l.map fun p => encN p.1)
  owb : w.ownsRow base 3 1 vb l.length (l.map fun p => encN p.2)
  sep : ∀ k, va.ownBlock = some k → vb.ownBlock ≠ some k
theorem PairsS.keep {w w' : World} {X : Nat → Prop} {base gp : Nat} {va vb : Value} {l : List (Nat × Nat)} (h : PairsS w base gp va vb l) (hk : Kept w w' X) (h1 : ¬ X gp) (h2 : ∀ g, va.ownBlock = some g → ¬ X g) (h3 : ∀ g, vb.ownBlock = some g → ¬ X g) : PairsS w' base gp va vb l :=
  ⟨h.blk.kept hk h1, hk.ownsRow h.owa h2, hk.ownsRow h.owb h3, h.sep⟩
theorem PairsS.keep0 {w w' : World} {base gp : Nat} {va vb : Value} {l : List (Nat × Nat)} (h : PairsS w base gp va vb l) (hk : Kept w w' (fun _ => False)) : PairsS w' base gp va vb l := h.keep hk id (fun _ _ => id) (fun _ _ => id)
/-- A pair more. -/
theorem PairsS.add {w w3 w4 w5 w6 : World} {base gp x y : Nat} {va vb va' vb' : Value} {l : List (Nat × Nat)} (h : PairsS w base gp va vb l)
    (k3 : Kept w w3 (fun k => va.ownBlock = some k)) (o3 : w3.ownsRow base 3 1 va' (l.length + 1) ((l.map fun p => encN p.1) ++ [encN x])) (m3 : Moved w va va') (e4 : w4 = w3.setCell ⟨gp, 0, none⟩ va')
    (k5 : Kept w4 w5 (fun k => vb.ownBlock = some k)) (o5 : w5.ownsRow base 3 1 vb' (l.length + 1) ((l.map fun p => encN p.2) ++ [encN y])) (m5 : Moved w4 vb vb') (e6 : w6 = w5.setCell ⟨gp, 1, none⟩ vb') :
    PairsS w6 base gp va' vb' (l ++ [(x, y)]) ∧ Kept w w6 (fun k => k = gp ∨ va.ownBlock = some k ∨ vb.ownBlock = some k) := by
  have na : va.ownBlock ≠ some gp := own_blk_ne h.owa h.blk (by decide)
  have nb : vb.ownBlock ≠ some gp := own_blk_ne h.owb h.blk (by decide)
  have b3 := h.blk.kept k3 na
  have ks4 : Kept w3 w4 (fun k => k = gp) := e4 ▸ (Kept.refl w3 (fun k => k = gp)).setCell (p := ⟨gp, 0, none⟩) (fun _ => rfl) va'
  have b4 : Blk w4 gp 128 #[va', vb] := by
    have := b3.set_ 0 va'
    rw [← e4] at this
    simpa using this
  have ks6 : Kept w5 w6 (fun k => k = gp) := e6 ▸ (Kept.refl w5 (fun k => k = gp)).setCell (p := ⟨gp, 1, none⟩) (fun _ => rfl) vb'
  have b5 := b4.kept k5 nb
  have b6 : Blk w6 gp 128 #[va', vb'] := by
    have := b5.set_ 1 vb'
    rw [← e6] at this
    simpa using this
  have n3 : ∀ g cs, g = gp → ¬ Blk w3 g 3 cs := fun g cs e hB => by subst e; exact b3.ne_ hB (by decide) rfl
  have n5 : ∀ g cs, g = gp → ¬ Blk w5 g 3 cs := fun g cs e hB => by subst e; exact b5.ne_ hB (by decide) rfl
  have hva' : ∀ k, va'.ownBlock = some k → vb.ownBlock ≠ some k := fun k hk hv => by
    rcases m3 with m3 | ⟨g, m3, hg⟩
    · exact h.sep k (by rw [← m3]; exact hk) hv
    · rw [m3] at hk
      injection hk with hk
      subst hk
      have := own_lt h.owb hv
      omega
  have hs34 : w3.heap.size ≤ w4.heap.size := ks4.size
  refine ⟨⟨b6, ?_, ?_, fun k hk hv => ?_⟩, ?_⟩
  · have h1 := own_ty ks4 o3 n3
    have h2 := k5.ownsRow h1 (fun g hg => hva' g hg)
    have h3 := own_ty ks6 h2 n5
    simpa using h3
  · have := own_ty ks6 o5 n5
    simpa using this
  · rcases m5 with m5 | ⟨g, m5, hg⟩
    · exact hva' k hk (by rw [← m5]; exact hv)
    · rw [m5] at hv
      injection hv with hv
      subst hv
      have := own_lt o3 hk
      omega
  · exact ((k3.mono (fun b _ hx => .inr (.inl hx))).trans ks4 (fun b _ e => .inl e)).trans ((k5.mono (Y := fun k => k = gp ∨ vb.ownBlock = some k) (fun b _ hx => .inr hx)).trans ks6 (fun b _ e => .inl e)) (fun b _ hx => hx.elim .inl (fun hx => .inr (.inr hx)))

theorem pair_first {l : List (Nat × Nat)} {i x y : Nat} (hi : l[i]? = some (x, y)) (h : ∀ j : Nat, j < i → l[j]? ≠ some (x, y)) : numL l (x, y) = i := idxOf_first hi h

set_option maxHeartbeats 4000000 in
set_option maxRecDepth 100000 in
theorem pairsNumber_any {w : World} {base gp x y : Nat} {va vb : Value} {l : List (Nat × Nat)} (h : PairsS w base gp va vb l) (hlen : l.length ≤ 100000) (hbase : base ≤ w.heap.size) :
    Calls Try.prog 94 #[.pointer (some ⟨gp, 0, none⟩), .int .i64 (x : Int), .int .i64 (y : Int)] w (Ret fun v w' => v = .int .i64 (numL (meetL l (x, y)) (x, y) : Int) ∧ ((x, y) ∈ l → w' = w) ∧ Kept w w' (fun k => k = gp ∨ va.ownBlock = some k ∨ vb.ownBlock = some k) ∧
      ∃ va' vb', PairsS w' base gp va' vb' (meetL l (x, y))) := by
  obtain ⟨A, c, rfl⟩ := slice_of_own h.owa
  obtain ⟨B, d, rfl⟩ := slice_of_own h.owb
  have hH := hide h
  have hcp := h.blk.cell
  have hfp := h.blk.frozen
  have hlp := h.blk.lt
  clear h
  go_enter Try.func94, Try.ntmps94
  go_wp2_with fail
  go_loop [7] (fun ii => ∃ (i : Nat), ii = .int .i64 (i : Int) ∧ i ≤ l.length ∧ Hid (∀ j : Nat, j < i → l[j]? ≠ some (x, y))) (fun ii => l.length - (intOf ii).toNat)
  case atStart => exact ⟨0, rfl, Nat.zero_le _, fun j hj => absurd hj (by omega)⟩
  case round =>
    obtain ⟨i, rfl, hi, hE⟩ := hrel
    by_cases hlt : i < l.length
    · obtain ⟨⟨a, b⟩, hab⟩ := get_lt hlt
      obtain ⟨ga, ca, hva, hca⟩ := own_get hH.out.owa (map_get (f := fun p : Nat × Nat => encN p.1) hab)
      obtain ⟨gb, cb, hvb, hcb⟩ := own_get hH.out.owb (map_get (f := fun p : Nat × Nat => encN p.2) hab)
      injection hva with hva _ hca2
      injection hvb with hvb _ hcb2
      subst hva hca2 hvb hcb2
      simp only [encN] at hca hcb
      have habH := hide hab
      clear hab
      by_cases ha : a = x
      · subst ha
        have e1 : ((a : Int) == (a : Int)) = true := by simp
        by_cases hb : b = y
        · subst hb
          go_wp2_with fail
          go_ret
          have hm : (a, b) ∈ l := List.mem_of_getElem? habH.out
          rw [meetL, if_pos hm]
          exact ⟨by rw [pair_first habH.out hE.out]; rfl, fun _ => rfl, Kept.refl _ _, _, _, hH.out⟩
        · have hbi : ¬ (b : Int) = (y : Int) := by omega
          have hbH := hide hb
          clear hb
          go_wp2_with fail
          refine ⟨⟨i + 1, by go_num, by omega, fun j hj => ?_⟩, by simp [intOf]; omega⟩
          by_cases e : j = i
          · subst e; rw [habH.out]; exact fun h => hbH.out (by injection h with h; injection h)
          · exact hE.out j (by omega)
      · have hai : ¬ (a : Int) = (x : Int) := by omega
        have haH := hide ha
        clear ha
        go_wp2_with fail
        refine ⟨⟨i + 1, by go_num, by omega, fun j hj => ?_⟩, by simp [intOf]; omega⟩
        by_cases e : j = i
        · subst e; rw [habH.out]; exact fun h => haH.out (by injection h with h; injection h)
        · exact hE.out j (by omega)
    · have hnm : (x, y) ∉ l := fun hm => by
        obtain ⟨j, hj⟩ := List.mem_iff_getElem?.1 hm
        exact hE.out j (by have := lt_of_get hj; omega) hj
      have hnH := hide hnm
      have hol := hH.out.owb
      have hoa := hH.out.owa
      have na : (Value.slice A l.length c).ownBlock ≠ some gp := own_blk_ne hoa hH.out.blk (by decide)
      have nb : (Value.slice B l.length d).ownBlock ≠ some gp := own_blk_ne hol hH.out.blk (by decide)
      have hsep := hH.out.sep
      clear hnm
      go_wp2_with (at_builtin; first
        | (refine wpList_app_new row22 rfl _ _ rfl base (.slice B l.length d) l.length _ rfl ho4 [.int .i64 (y : Int)] 1 rfl rfl (by simp [Value.oneCell']) (by omega) hbs4 ?_; intro g5 cap5 w5 hown5 hk5 hmv5 hg5
           have hb5 := hb4.kept hk5 nb
           have hc5 := hb5.cell
           have hf5 := hb5.frozen
           have hl5 := hb5.lt
           have hst := hide (hH.out.add hk3H.out ho3H.out hm3H.out hw4.symm hk5 hown5 hmv5 rfl)
           clear hk5 hown5 hmv5 hg5 hb5)
        | (refine wpList_app_new row22 rfl _ _ rfl base (.slice A l.length c) l.length _ rfl hoa [.int .i64 (x : Int)] 1 rfl rfl (by simp [Value.oneCell']) (by omega) hbase ?_; intro g3 cap3 w3 hown3 hk3 hmv3 hg3
           have hb3 := hH.out.blk.kept hk3 na
           have hc3 := hb3.cell
           have hf3 := hb3.frozen
           have hl3 := hb3.lt
           obtain ⟨w4, hw4⟩ : ∃ w4, w3.setCell ⟨gp, 0, none⟩ (.slice (some ⟨g3, 0, none⟩) (l.length + 1) cap3) = w4 := ⟨_, rfl⟩
           have hks4 : Kept w3 w4 (fun k => k = gp) := hw4 ▸ (Kept.refl w3 (fun k => k = gp)).setCell (p := ⟨gp, 0, none⟩) (fun _ => rfl) _
           have hb4 : Blk w4 gp 128 #[.slice (some ⟨g3, 0, none⟩) (l.length + 1) cap3, .slice B l.length d] := (by have := hb3.set_ 0 (.slice (some ⟨g3, 0, none⟩) (l.length + 1) cap3); rw [hw4] at this; simpa using this)
           have hc4 := hb4.cell
           have ho4 := own_ty hks4 (hk3.ownsRow hol (fun g hg hx => hsep g hx hg)) (fun g cs e hB => by subst e; exact hb3.ne_ hB (by decide) rfl)
           have hbs4 : base ≤ w4.heap.size := (by have := hk3.size; have := hks4.size; omega)
           have hk3H := hide hk3
           have ho3H := hide hown3
           have hm3H := hide hmv3
           clear hk3 hown3 hmv3 hg3 hcp hfp))
      go_ret
      rw [meet_newP hnH.out]
      exact ⟨by rw [← meet_newP hnH.out, numL_new hnH.out]; simp, fun h => (hnH.out h).elim, hst.out.2, _, _, hst.out.1⟩
end Go.Proofs.Ytnimlcbgeiajiaa

namespace Go.Proofs.Ytnimlcbgeiajiaa
open Go.RowKit

def jLeaf (lf1 lf2 : Nat → Nat) (x : Nat) : Nat × Nat := (lf1 x, lf2 x)
def jBr (br1 br2 : Nat → Nat → Nat → Nat) (x : Nat) (p q : Nat × Nat) : Nat × Nat := (br1 x p.1 q.1, br2 x p.2 q.2)
/-- Two tables. -/
structure JoiX (w : World) (g3 g4 L n1 n2 : Nat) (vl1 vb1 va1 vl2 vb2 va2 : Value) (lf1 lf2 : Nat → Nat) (br1 br2 : Nat → Nat → Nat → Nat) (ac1 ac2 : Nat → Bool) : Prop where
  t1 : TblF w L n1 vl1 vb1 va1 lf1 br1 ac1
  t2 : TblF w L n2 vl2 vb2 va2 lf2 br2 ac2
  b1 : Blk w g3 84 #[.int .i64 (L : Int), vl1, vb1, va1]
  b2 : Blk w g4 84 #[.int .i64 (L : Int), vl2, vb2, va2]
/-- Their states are below n1 and n2. -/
structure JoiN (L n1 n2 : Nat) (lf1 lf2 : Nat → Nat) (br1 br2 : Nat → Nat → Nat → Nat) : Prop where
  m1 : ∀ x, x < L → lf1 x < n1
  m2 : ∀ x, x < L → lf2 x < n2
  r1 : ∀ x i k, x < L → i < n1 → k < n1 → br1 x i k < n1
  r2 : ∀ x i k, x < L → i < n2 → k < n2 → br2 x i k < n2
section
variable {w w' w2 wr w4 w5 : World} {g3 g4 gp L n1 n2 : Nat} {vl1 vb1 va1 vl2 vb2 va2 va vb va' vb' : Value} {lf1 lf2 : Nat → Nat} {br1 br2 : Nat → Nat → Nat → Nat} {ac1 ac2 : Nat → Bool} {l l' : List (Nat × Nat)}
theorem JoiX.at (h : JoiX w g3 g4 L n1 n2 vl1 vb1 va1 vl2 vb2 va2 lf1 lf2 br1 br2 ac1 ac2) (hb : Below w.heap.size w w') : JoiX w' g3 g4 L n1 n2 vl1 vb1 va1 vl2 vb2 va2 lf1 lf2 br1 br2 ac1 ac2 :=
  ⟨h.t1.below hb, h.t2.below hb, h.b1.below hb, h.b2.below hb⟩
theorem JoiN.reach (h : JoiN L n1 n2 lf1 lf2 br1 br2) {p : Nat × Nat} (hp : Reach L (jLeaf lf1 lf2) (jBr br1 br2) p) : p.1 < n1 ∧ p.2 < n2 := by
  induction hp with
  | leaf x hx => exact ⟨h.m1 x hx, h.m2 x hx⟩
  | br x a b hx _ _ iha ihb => exact ⟨h.r1 x _ _ hx iha.1 ihb.1, h.r2 x _ _ hx iha.2 ihb.2⟩
theorem JoiN.len (h : JoiN L n1 n2 lf1 lf2 br1 br2) (hn : l.Nodup) (hR : ∀ p ∈ l, Reach L (jLeaf lf1 lf2) (jBr br1 br2) p) : l.length ≤ n1 * n2 := by
  have := sub_len' l ((List.range n1).flatMap fun a => (List.range n2).map fun b => (a, b)) hn (fun p hp => by
    obtain ⟨h1, h2⟩ := h.reach (hR p hp)
    exact List.mem_flatMap.2 ⟨p.1, List.mem_range.2 h1, List.mem_map.2 ⟨p.2, List.mem_range.2 h2, rfl⟩⟩)
  have h2 := flat_len (fun a : Nat => (List.range n2).map fun b : Nat => (a, b)) n2 (fun a => by simp) (List.range n1)
  rw [List.length_range] at h2
  omega
/-- The pairs that have been met. -/
structure JoiS (w2 wr : World) (gp : Nat) (va vb : Value) (l : List (Nat × Nat)) : Prop where
  below : Below w2.heap.size w2 wr
  pr : PairsS wr w2.heap.size gp va vb l
  hgp : w2.heap.size ≤ gp
theorem JoiS.call (h : JoiS w2 wr gp va vb l) (hb : Below wr.heap.size wr w4) : JoiS w2 w4 gp va vb l :=
  ⟨h.below.trans (hb.mono h.below.size), h.pr.keep0 (Kept.of_below hb _), h.hgp⟩
theorem JoiS.drew (h : JoiS w2 wr gp va vb l) : JoiS w2 wr.drew gp va vb l := h.call (drew_below wr)
theorem JoiS.num (h : JoiS w2 wr gp va vb l) (hk : Kept wr w5 (fun k => k = gp ∨ va.ownBlock = some k ∨ vb.ownBlock = some k)) (hs : PairsS w5 w2.heap.size gp va' vb' l') : JoiS w2 w5 gp va' vb' l' :=
  ⟨h.below.trans (hk.below h.below.size fun b hb hx => by
    rcases hx with hx | hx | hx
    · have := h.hgp; omega
    · have := own_base h.pr.owa hx; omega
    · have := own_base h.pr.owb hx; omega), hs, h.hgp⟩
theorem JoiS.number (h : JoiS w2 wr gp va vb l) (x y : Nat) (hl : l.length ≤ 90000) :
    Calls Try.prog 94 #[.pointer (some ⟨gp, 0, none⟩), .int .i64 (x : Int), .int .i64 (y : Int)] wr (Ret fun v w' => v = .int .i64 (numL (meetL l (x, y)) (x, y) : Int) ∧ ∃ va' vb', JoiS w2 w' gp va' vb' (meetL l (x, y))) :=
  (pairsNumber_any (x := x) (y := y) h.pr (by omega) h.below.size).mono fun e w' hr => by
    cases e with
    | returned v =>
      obtain ⟨h1, -, h2, va', vb', h3⟩ := hr
      exact ⟨h1, va', vb', h.num h2 h3⟩
    | panicked c => exact hr.elim
    | outgrown => exact hr.elim
theorem JoiS.old (h : JoiS w2 wr gp va vb l) {x y : Nat} (hl : l.length ≤ 90000) (hm : (x, y) ∈ l) :
    Calls Try.prog 94 #[.pointer (some ⟨gp, 0, none⟩), .int .i64 (x : Int), .int .i64 (y : Int)] wr (fun e w' => e = .returned (.int .i64 (numL l (x, y) : Int)) ∧ wr = w') :=
  (pairsNumber_any (x := x) (y := y) h.pr (by omega) h.below.size).mono fun e w' hr => by
    cases e with
    | returned v =>
      obtain ⟨h1, h2, -, -⟩ := hr
      rw [meetL, if_pos hm] at h1
      exact ⟨by rw [h1], (h2 hm).symm⟩
    | panicked c => exact hr.elim
    | outgrown => exact hr.elim
theorem JoiS.get (h : JoiS w2 wr gp va vb l) {i : Nat} (hi : i < l.length) : ∃ ga ca gb cb p1 p2, va = .slice (some ⟨ga, 0, none⟩) l.length ca ∧ vb = .slice (some ⟨gb, 0, none⟩) l.length cb ∧ l[i]? = some (p1, p2) ∧ wr.cell? ⟨ga, i, none⟩ = some (.int .i64 (p1 : Int)) ∧ wr.cell? ⟨gb, i, none⟩ = some (.int .i64 (p2 : Int)) := by
  obtain ⟨⟨p1, p2⟩, hp⟩ := get_lt hi
  obtain ⟨ga, ca, rfl, hca⟩ := own_get h.pr.owa (map_get (f := fun p : Nat × Nat => encN p.1) hp)
  obtain ⟨gb, cb, rfl, hcb⟩ := own_get h.pr.owb (map_get (f := fun p : Nat × Nat => encN p.2) hp)
  exact ⟨ga, ca, gb, cb, p1, p2, rfl, rfl, hp, hca, hcb⟩
end

set_option maxHeartbeats 8000000 in
set_option maxRecDepth 100000 in
theorem joi_k {w2 w : World} {g3 g4 gp L n1 n2 x i d : Nat} {vl1 vb1 va1 vl2 vb2 va2 va vb : Value} {lf1 lf2 : Nat → Nat} {br1 br2 : Nat → Nat → Nat → Nat} {ac1 ac2 : Nat → Bool} (hX : JoiX w2 g3 g4 L n1 n2 vl1 vb1 va1 vl2 vb2 va2 lf1 lf2 br1 br2 ac1 ac2) (hNN : JoiN L n1 n2 lf1 lf2 br1 br2) (hn12 : n1 * n2 ≤ 20000) (hx : x < L)
    {l0 l : List (Nat × Nat)} (hi : i < l0.length) (hS : JoiS w2 w gp va vb l) (hM : ExpM L (jLeaf lf1 lf2) (jBr br1 br2) l0 l d (fun x' i' _ => x' < x ∨ x' = x ∧ i' < i))
    {u0 u1 u2 u5 u6 u8 u14 u15 u16 u17 u18 u19 u20 u21 u22 u23 u24 u25 u26 u27 u28 u29 u30 u31 u32 u33 u34 u35 u36 u37 u38 u39 u40 u41 u42 u43 u44 u45 u46 u47 u48 u49 u50 u51 u52 u53 u54 u55 u56 u57 u58 u59 u60 u61 u62 u63 u64 u65 u66 u67 u68 u69 u70 u71 u72 u73 u74 u75 u76 u77 u78 u79 u80 u81 u82 u83 u84 u85 u86 u87 u88 u89 u90 u91 u92 u93 u94 u95 u96 u97 u98 u99 u100 u101 u102 u103 u104 u105 u106 u107 u108 u109 u110 u111 u112 u113 u114 u115 u116 u117 u118 u119 u120 u121 u122 u123 u124 u125 u126 u127 u128 u129 u130 u131 u132 u133 u134 u135 u136 u137 u138 u139 u140 u141 u142 u143 u144 u145 u146 u147 u148 u149 u150 u151 u152 u153 u154 u155 u156 u157 u158 u159 u160 u161 u162 u163 u164 u165 u166 u167 u168 u169 u170 u171 u172 u173 u174 u175 u176 u177 u178 u179 u180 u181 u182 u183 u184 u185 u186 u187 u188 u189 u190 u191 u192 u193 u194 u195 u196 u197 u198 u199 u200 u201 u202 u203 u204 u205 u206 u207 u208 u209 u210 u211 u212 u213 u214 u215 u216 u217 u218 u219 u220 u221 u222 u223 u224 u225 u226 u227 u228 u229 : Value}
    {Q : Exit → Act → World → Prop} (hN : Reg.NoQ Q)
    (hQ : ∀ (x13 x55 x56 x57 x58 x59 x60 x61 x62 x63 x64 x65 x66 x67 x68 x69 x70 x71 x72 x73 x74 x75 x76 x77 x78 x79 x80 x81 x82 x83 x84 x85 x86 x87 x88 x89 x90 x91 x92 x93 x94 x95 x96 x97 x98 x99 x100 x101 x102 x103 x104 x105 x106 : Value) (w' : World) (va' vb' : Value) (l' : List (Nat × Nat)), JoiS w2 w' gp va' vb' l' → ExpM L (jLeaf lf1 lf2) (jBr br1 br2) l0 l' d (fun x' i' _ => x' < x ∨ x' = x ∧ i' < i + 1) →
      Q (.exit 8) ⟨List.toArray (u0 :: u1 :: u2 :: (.pointer (some ⟨g3, 0, none⟩)) :: (.pointer (some ⟨g4, 0, none⟩)) :: u5 :: u6 :: (.pointer (some ⟨gp, 0, none⟩)) :: u8 :: (.int .i64 d) :: (.int .i64 l0.length) :: (.int .i64 x) :: (.int .i64 i) :: x13 :: u14 :: u15 :: u16 :: u17 :: u18 :: 
      u19 :: u20 :: u21 :: u22 :: u23 :: u24 :: u25 :: u26 :: u27 :: u28 :: u29 :: u30 :: u31 :: u32 :: u33 :: u34 :: u35 :: u36 :: u37 :: u38 :: u39 :: u40 :: u41 :: u42 :: u43 :: u44 :: u45 :: u46 :: u47 :: u48 :: u49 :: u50 :: u51 :: u52 :: u53 :: u54 :: x55 :: 
      x56 :: x57 :: x58 :: x59 :: x60 :: x61 :: x62 :: x63 :: x64 :: x65 :: x66 :: x67 :: x68 :: x69 :: x70 :: x71 :: x72 :: x73 :: x74 :: x75 :: x76 :: x77 :: x78 :: x79 :: x80 :: x81 :: x82 :: x83 :: x84 :: x85 :: x86 :: x87 :: x88 :: x89 :: x90 :: x91 :: x92 :: 
      x93 :: x94 :: x95 :: x96 :: x97 :: x98 :: x99 :: x100 :: x101 :: x102 :: x103 :: x104 :: x105 :: x106 :: u107 :: u108 :: u109 :: u110 :: u111 :: u112 :: u113 :: u114 :: u115 :: u116 :: u117 :: u118 :: u119 :: u120 :: u121 :: u122 :: u123 :: u124 :: u125 :: 
      u126 :: u127 :: u128 :: u129 :: u130 :: u131 :: u132 :: u133 :: u134 :: u135 :: u136 :: u137 :: u138 :: u139 :: u140 :: u141 :: u142 :: u143 :: u144 :: u145 :: u146 :: u147 :: u148 :: u149 :: u150 :: u151 :: u152 :: u153 :: u154 :: u155 :: u156 :: u157 :: u158 :: 
      u159 :: u160 :: u161 :: u162 :: u163 :: u164 :: u165 :: u166 :: u167 :: u168 :: u169 :: u170 :: u171 :: u172 :: u173 :: u174 :: u175 :: u176 :: u177 :: u178 :: u179 :: u180 :: u181 :: u182 :: u183 :: u184 :: u185 :: u186 :: u187 :: u188 :: u189 :: u190 :: u191 :: 
      u192 :: u193 :: u194 :: u195 :: u196 :: u197 :: u198 :: u199 :: u200 :: u201 :: u202 :: u203 :: u204 :: u205 :: u206 :: u207 :: u208 :: u209 :: u210 :: u211 :: u212 :: u213 :: u214 :: u215 :: u216 :: u217 :: u218 :: u219 :: u220 :: u221 :: u222 :: u223 :: u224 :: 
      u225 :: u226 :: u227 :: u228 :: u229 :: []), []⟩ w') :
    (Code.loop (loopBody Try.f71 4)).wp Try.prog Q ⟨List.toArray (u0 :: u1 :: u2 :: (.pointer (some ⟨g3, 0, none⟩)) :: (.pointer (some ⟨g4, 0, none⟩)) :: u5 :: u6 :: (.pointer (some ⟨gp, 0, none⟩)) :: u8 :: (.int .i64 d) :: (.int .i64 l0.length) :: (.int .i64 x) :: (.int .i64 i) :: (.int .i64 0) :: u14 :: u15 :: u16 :: u17 :: 
      u18 :: u19 :: u20 :: u21 :: u22 :: u23 :: u24 :: u25 :: u26 :: u27 :: u28 :: u29 :: u30 :: u31 :: u32 :: u33 :: u34 :: u35 :: u36 :: u37 :: u38 :: u39 :: u40 :: u41 :: u42 :: u43 :: u44 :: u45 :: u46 :: u47 :: u48 :: u49 :: u50 :: u51 :: u52 :: u53 :: u54 :: 
      u55 :: u56 :: u57 :: u58 :: u59 :: u60 :: u61 :: u62 :: u63 :: u64 :: u65 :: u66 :: u67 :: u68 :: u69 :: u70 :: u71 :: u72 :: u73 :: u74 :: u75 :: u76 :: u77 :: u78 :: u79 :: u80 :: u81 :: u82 :: u83 :: u84 :: u85 :: u86 :: u87 :: u88 :: u89 :: u90 :: u91 :: 
      u92 :: u93 :: u94 :: u95 :: u96 :: u97 :: u98 :: u99 :: u100 :: u101 :: u102 :: u103 :: u104 :: u105 :: u106 :: u107 :: u108 :: u109 :: u110 :: u111 :: u112 :: u113 :: u114 :: u115 :: u116 :: u117 :: u118 :: u119 :: u120 :: u121 :: u122 :: u123 :: u124 :: u125 :: 
      u126 :: u127 :: u128 :: u129 :: u130 :: u131 :: u132 :: u133 :: u134 :: u135 :: u136 :: u137 :: u138 :: u139 :: u140 :: u141 :: u142 :: u143 :: u144 :: u145 :: u146 :: u147 :: u148 :: u149 :: u150 :: u151 :: u152 :: u153 :: u154 :: u155 :: u156 :: u157 :: u158 :: 
      u159 :: u160 :: u161 :: u162 :: u163 :: u164 :: u165 :: u166 :: u167 :: u168 :: u169 :: u170 :: u171 :: u172 :: u173 :: u174 :: u175 :: u176 :: u177 :: u178 :: u179 :: u180 :: u181 :: u182 :: u183 :: u184 :: u185 :: u186 :: u187 :: u188 :: u189 :: u190 :: u191 :: 
      u192 :: u193 :: u194 :: u195 :: u196 :: u197 :: u198 :: u199 :: u200 :: u201 :: u202 :: u203 :: u204 :: u205 :: u206 :: u207 :: u208 :: u209 :: u210 :: u211 :: u212 :: u213 :: u214 :: u215 :: u216 :: u217 :: u218 :: u219 :: u220 :: u221 :: u222 :: u223 :: u224 :: 
      u225 :: u226 :: u227 :: u228 :: u229 :: []), []⟩ w := by
  conv => arg 2; arg 1; whnf
  have hMM := hide hM
  have hl0 := Nat.le_trans hM.pre.length_le (hNN.len hM.nodup hM.reach)
  have hNH := hide hNN
  clear hM hNN
  obtain ⟨gv1, cv1, gi1, ci1, gj1, cj1, rfl, ht1⟩ := hX.t1.tab
  obtain ⟨gv2, cv2, gi2, ci2, gj2, cj2, rfl, ht2⟩ := hX.t2.tab
  have ht1H := hide ht1
  have ht2H := hide ht2
  clear ht1 ht2
  go_loopw [13] (fun kk wr => ∃ (k : Nat) (va' vb' : Value) (l' : List (Nat × Nat)), kk = .int .i64 (k : Int) ∧ k ≤ l0.length ∧ JoiS w2 wr gp va' vb' l' ∧
    Hid (ExpM L (jLeaf lf1 lf2) (jBr br1 br2) l0 l' d (fun x' i' k' => x' < x ∨ x' = x ∧ i' < i ∨ x' = x ∧ i' = i ∧ k' < k))) (fun kk _ => l0.length - (intOf kk).toNat)
  case atStart => exact ⟨0, va, vb, l, rfl, Nat.zero_le _, hS, hMM.out.imp (fun x' i' k' _ _ _ h => by omega)⟩
  case round =>
    obtain ⟨k, va', vb', l', rfl, hk, hS', hE⟩ := hrel
    by_cases hlt : k < l0.length
    · have hpl := hE.out.pre.length_le
      have hcl := Nat.le_trans (hNH.out.len hE.out.nodup hE.out.reach) hn12
      by_cases hdd : i < d ∧ k < d
      · obtain ⟨hd1, hd2⟩ := hdd
        have hSH := hide hS'
        clear hS'
        go_wp2_with fail
        refine ⟨⟨k + 1, va', vb', l', by go_num, by omega, hSH.out, hE.out.imp (fun x' i' k' _ _ _ h => by omega)⟩, by simp [intOf]; omega⟩
      · obtain ⟨ga, ca, gb, cb, p1, p2, rfl, rfl, hls, hca, hcb⟩ := hS'.get (i := i) (by omega)
        obtain ⟨ga', ca', gb', cb', q1, q2, hv1, hv2, hlu, hda, hdb⟩ := hS'.get (i := k) (by omega)
        injection hv1 with hv1 _ hv3
        injection hv1 with hv1
        injection hv1 with hv1
        subst hv1 hv3
        injection hv2 with hv2 _ hv3
        injection hv2 with hv2
        injection hv2 with hv2
        subst hv2 hv3
        have hil : i < l'.length := by omega
        have hkl : k < l'.length := by omega
        have hXr := hX.at hS'.below
        have hc3 := hXr.b1.cell
        have hc4 := hXr.b2.cell
        have hcs := hS'.pr.blk.cell
        obtain ⟨hp1, hp2⟩ := hNH.out.reach (hE.out.reach _ (List.mem_of_getElem? hls))
        obtain ⟨hq1, hq2⟩ := hNH.out.reach (hE.out.reach _ (List.mem_of_getElem? hlu))
        dsimp only at hp1 hp2 hq1 hq2
        have c := fun {a : Addr} {v : Value} (h : w2.cell? a = some v) => (hS'.below.cell (cell_lt' h)).trans h
        have m1 := c (ht1H.out x hx).1
        have m2 := c ((ht1H.out x hx).2 p1 hp1).1
        have m3 := c (((ht1H.out x hx).2 p1 hp1).2 q1 hq1)
        have m4 := c (ht2H.out x hx).1
        have m5 := c ((ht2H.out x hx).2 p2 hp2).1
        have m6 := c (((ht2H.out x hx).2 p2 hp2).2 q2 hq2)
        have hi0 : l0[i]? = some (p1, p2) := by
          obtain ⟨y, hy⟩ := get_lt hi
          have := prefix_get hE.out.pre hy
          rw [hls] at this
          rw [hy, Option.some.inj this]
        have hk0 : l0[k]? = some (q1, q2) := by
          obtain ⟨y, hy⟩ := get_lt hlt
          have := prefix_get hE.out.pre hy
          rw [hlu] at this
          rw [hy, Option.some.inj this]
        have hE2 := hide (hE.out.meet (D' := fun x' i' k' => x' < x ∨ x' = x ∧ i' < i ∨ x' = x ∧ i' = i ∧ k' < k + 1) hx hi0 hk0 (fun x' i' k' _ _ _ h => by omega))
        have hSS := hide hS'.drew
        clear hls hlu hi0 hk0 hXr c hS'
        have hor : d ≤ i ∨ i < d ∧ d ≤ k := by omega
        clear hdd
        rcases hor with h1 | ⟨h1, h2⟩
        all_goals
          go_wp2_with fail
          refine Reg.region_plain [0, 1, 0, 7, 15, 0, 32, 0, 224, 480, 1023, 2047, 0, 4096, 0, 28672, 61440, 131071, 262143, 0, 524288, 0, 3670016, 7864320, 0, 16777216, 0, 117440512, 251658240, 536346624, 1073217536, 0, 2147483648, 0, 15032385536, 32212254720, 68718952448, 137438429184, 274877906943] (by kernel_rfl) (by repeat (first | exact hN | refine Reg.NoQ.then ?_ | refine Reg.NoQ.inBlock ?_)) ?_
          go_wp2_with (go_at_call 94; refine Calls.ret (hSS.out.number (br1 x p1 q1) (br2 x p2 q2) (by omega)) ?_; rintro r w5 ⟨rfl, va5, vb5, hS5⟩)
          exact ⟨⟨k + 1, va5, vb5, _, by go_num, by omega, hS5, hE2.out⟩, by simp [intOf]; omega⟩
    · obtain rfl : k = l0.length := by omega
      have hSH := hide hS'
      clear hS'
      go_wp2_with fail
      exact hQ _ _ _ _ _ _ _ _ _ _ _ _ _ _ _ _ _ _ _ _ _ _ _ _ _ _ _ _ _ _ _ _ _ _ _ _ _ _ _ _ _ _ _ _ _ _ _ _ _ _ _ _ _ wr va' vb' l' hSH.out (hE.out.imp (fun x' i' k' _ _ h3 h => by omega))
end Go.Proofs.Ytnimlcbgeiajiaa

namespace Go.Proofs.Ytnimlcbgeiajiaa
open Go.RowKit

set_option maxHeartbeats 8000000 in
set_option maxRecDepth 100000 in
theorem joi_i {w2 w : World} {g3 g4 gp L n1 n2 x d : Nat} {vl1 vb1 va1 vl2 vb2 va2 va vb : Value} {lf1 lf2 : Nat → Nat} {br1 br2 : Nat → Nat → Nat → Nat} {ac1 ac2 : Nat → Bool} (hX : JoiX w2 g3 g4 L n1 n2 vl1 vb1 va1 vl2 vb2 va2 lf1 lf2 br1 br2 ac1 ac2) (hNN : JoiN L n1 n2 lf1 lf2 br1 br2) (hn12 : n1 * n2 ≤ 20000) (hx : x < L)
    {l0 l : List (Nat × Nat)} (hS : JoiS w2 w gp va vb l) (hM : ExpM L (jLeaf lf1 lf2) (jBr br1 br2) l0 l d (fun x' _ _ => x' < x))
    {u0 u1 u2 u5 u6 u8 u13 u14 u15 u16 u17 u18 u19 u20 u21 u22 u23 u24 u25 u26 u27 u28 u29 u30 u31 u32 u33 u34 u35 u36 u37 u38 u39 u40 u41 u42 u43 u44 u45 u46 u47 u48 u49 u50 u51 u52 u53 u54 u55 u56 u57 u58 u59 u60 u61 u62 u63 u64 u65 u66 u67 u68 u69 u70 u71 u72 u73 u74 u75 u76 u77 u78 u79 u80 u81 u82 u83 u84 u85 u86 u87 u88 u89 u90 u91 u92 u93 u94 u95 u96 u97 u98 u99 u100 u101 u102 u103 u104 u105 u106 u107 u108 u109 u110 u111 u112 u113 u114 u115 u116 u117 u118 u119 u120 u121 u122 u123 u124 u125 u126 u127 u128 u129 u130 u131 u132 u133 u134 u135 u136 u137 u138 u139 u140 u141 u142 u143 u144 u145 u146 u147 u148 u149 u150 u151 u152 u153 u154 u155 u156 u157 u158 u159 u160 u161 u162 u163 u164 u165 u166 u167 u168 u169 u170 u171 u172 u173 u174 u175 u176 u177 u178 u179 u180 u181 u182 u183 u184 u185 u186 u187 u188 u189 u190 u191 u192 u193 u194 u195 u196 u197 u198 u199 u200 u201 u202 u203 u204 u205 u206 u207 u208 u209 u210 u211 u212 u213 u214 u215 u216 u217 u218 u219 u220 u221 u222 u223 u224 u225 u226 u227 u228 u229 : Value}
    {Q : Exit → Act → World → Prop} (hN : Reg.NoQ Q)
    (hQ : ∀ (x12 x13 x50 x51 x52 x53 x54 x55 x56 x57 x58 x59 x60 x61 x62 x63 x64 x65 x66 x67 x68 x69 x70 x71 x72 x73 x74 x75 x76 x77 x78 x79 x80 x81 x82 x83 x84 x85 x86 x87 x88 x89 x90 x91 x92 x93 x94 x95 x96 x97 x98 x99 x100 x101 x102 x103 x104 x105 x106 : Value) (w' : World) (va' vb' : Value) (l' : List (Nat × Nat)), JoiS w2 w' gp va' vb' l' → ExpM L (jLeaf lf1 lf2) (jBr br1 br2) l0 l' d (fun x' _ _ => x' < x + 1) →
      Q (.exit 6) ⟨List.toArray (u0 :: u1 :: u2 :: (.pointer (some ⟨g3, 0, none⟩)) :: (.pointer (some ⟨g4, 0, none⟩)) :: u5 :: u6 :: (.pointer (some ⟨gp, 0, none⟩)) :: u8 :: (.int .i64 d) :: (.int .i64 l0.length) :: (.int .i64 x) :: x12 :: x13 :: u14 :: u15 :: u16 :: u17 :: u18 :: u19 :: u20 :: 
      u21 :: u22 :: u23 :: u24 :: u25 :: u26 :: u27 :: u28 :: u29 :: u30 :: u31 :: u32 :: u33 :: u34 :: u35 :: u36 :: u37 :: u38 :: u39 :: u40 :: u41 :: u42 :: u43 :: u44 :: u45 :: u46 :: u47 :: u48 :: u49 :: x50 :: x51 :: x52 :: x53 :: x54 :: x55 :: x56 :: x57 :: 
      x58 :: x59 :: x60 :: x61 :: x62 :: x63 :: x64 :: x65 :: x66 :: x67 :: x68 :: x69 :: x70 :: x71 :: x72 :: x73 :: x74 :: x75 :: x76 :: x77 :: x78 :: x79 :: x80 :: x81 :: x82 :: x83 :: x84 :: x85 :: x86 :: x87 :: x88 :: x89 :: x90 :: x91 :: x92 :: x93 :: x94 :: 
      x95 :: x96 :: x97 :: x98 :: x99 :: x100 :: x101 :: x102 :: x103 :: x104 :: x105 :: x106 :: u107 :: u108 :: u109 :: u110 :: u111 :: u112 :: u113 :: u114 :: u115 :: u116 :: u117 :: u118 :: u119 :: u120 :: u121 :: u122 :: u123 :: u124 :: u125 :: u126 :: u127 :: 
      u128 :: u129 :: u130 :: u131 :: u132 :: u133 :: u134 :: u135 :: u136 :: u137 :: u138 :: u139 :: u140 :: u141 :: u142 :: u143 :: u144 :: u145 :: u146 :: u147 :: u148 :: u149 :: u150 :: u151 :: u152 :: u153 :: u154 :: u155 :: u156 :: u157 :: u158 :: u159 :: u160 :: 
      u161 :: u162 :: u163 :: u164 :: u165 :: u166 :: u167 :: u168 :: u169 :: u170 :: u171 :: u172 :: u173 :: u174 :: u175 :: u176 :: u177 :: u178 :: u179 :: u180 :: u181 :: u182 :: u183 :: u184 :: u185 :: u186 :: u187 :: u188 :: u189 :: u190 :: u191 :: u192 :: u193 :: 
      u194 :: u195 :: u196 :: u197 :: u198 :: u199 :: u200 :: u201 :: u202 :: u203 :: u204 :: u205 :: u206 :: u207 :: u208 :: u209 :: u210 :: u211 :: u212 :: u213 :: u214 :: u215 :: u216 :: u217 :: u218 :: u219 :: u220 :: u221 :: u222 :: u223 :: u224 :: u225 :: u226 :: 
      u227 :: u228 :: u229 :: []), []⟩ w') :
    (Code.loop (loopBody Try.f71 3)).wp Try.prog Q ⟨List.toArray (u0 :: u1 :: u2 :: (.pointer (some ⟨g3, 0, none⟩)) :: (.pointer (some ⟨g4, 0, none⟩)) :: u5 :: u6 :: (.pointer (some ⟨gp, 0, none⟩)) :: u8 :: (.int .i64 d) :: (.int .i64 l0.length) :: (.int .i64 x) :: (.int .i64 0) :: u13 :: u14 :: u15 :: u16 :: u17 :: u18 :: 
      u19 :: u20 :: u21 :: u22 :: u23 :: u24 :: u25 :: u26 :: u27 :: u28 :: u29 :: u30 :: u31 :: u32 :: u33 :: u34 :: u35 :: u36 :: u37 :: u38 :: u39 :: u40 :: u41 :: u42 :: u43 :: u44 :: u45 :: u46 :: u47 :: u48 :: u49 :: u50 :: u51 :: u52 :: u53 :: u54 :: u55 :: 
      u56 :: u57 :: u58 :: u59 :: u60 :: u61 :: u62 :: u63 :: u64 :: u65 :: u66 :: u67 :: u68 :: u69 :: u70 :: u71 :: u72 :: u73 :: u74 :: u75 :: u76 :: u77 :: u78 :: u79 :: u80 :: u81 :: u82 :: u83 :: u84 :: u85 :: u86 :: u87 :: u88 :: u89 :: u90 :: u91 :: u92 :: 
      u93 :: u94 :: u95 :: u96 :: u97 :: u98 :: u99 :: u100 :: u101 :: u102 :: u103 :: u104 :: u105 :: u106 :: u107 :: u108 :: u109 :: u110 :: u111 :: u112 :: u113 :: u114 :: u115 :: u116 :: u117 :: u118 :: u119 :: u120 :: u121 :: u122 :: u123 :: u124 :: u125 :: 
      u126 :: u127 :: u128 :: u129 :: u130 :: u131 :: u132 :: u133 :: u134 :: u135 :: u136 :: u137 :: u138 :: u139 :: u140 :: u141 :: u142 :: u143 :: u144 :: u145 :: u146 :: u147 :: u148 :: u149 :: u150 :: u151 :: u152 :: u153 :: u154 :: u155 :: u156 :: u157 :: u158 :: 
      u159 :: u160 :: u161 :: u162 :: u163 :: u164 :: u165 :: u166 :: u167 :: u168 :: u169 :: u170 :: u171 :: u172 :: u173 :: u174 :: u175 :: u176 :: u177 :: u178 :: u179 :: u180 :: u181 :: u182 :: u183 :: u184 :: u185 :: u186 :: u187 :: u188 :: u189 :: u190 :: u191 :: 
      u192 :: u193 :: u194 :: u195 :: u196 :: u197 :: u198 :: u199 :: u200 :: u201 :: u202 :: u203 :: u204 :: u205 :: u206 :: u207 :: u208 :: u209 :: u210 :: u211 :: u212 :: u213 :: u214 :: u215 :: u216 :: u217 :: u218 :: u219 :: u220 :: u221 :: u222 :: u223 :: u224 :: 
      u225 :: u226 :: u227 :: u228 :: u229 :: []), []⟩ w := by
  conv => arg 2; arg 1; whnf
  have hMM := hide hM
  have hl0 := Nat.le_trans (Nat.le_trans hM.pre.length_le (hNN.len hM.nodup hM.reach)) hn12
  have hNH := hide hNN
  clear hM hNN
  go_loopw [12] (fun ii wr => ∃ (i : Nat) (va' vb' : Value) (l' : List (Nat × Nat)), ii = .int .i64 (i : Int) ∧ i ≤ l0.length ∧ JoiS w2 wr gp va' vb' l' ∧
    Hid (ExpM L (jLeaf lf1 lf2) (jBr br1 br2) l0 l' d (fun x' i' _ => x' < x ∨ x' = x ∧ i' < i))) (fun ii _ => l0.length - (intOf ii).toNat)
  case atStart => exact ⟨0, va, vb, l, rfl, Nat.zero_le _, hS, hMM.out.imp (fun x' i' k' _ _ _ h => by omega)⟩
  case round =>
    obtain ⟨i, va', vb', l', rfl, hi, hS', hE⟩ := hrel
    have hSS := hide hS'
    clear hS'
    by_cases hlt : i < l0.length
    · go_wp2_with fail
      refine joi_k hX hNH.out hn12 hx hlt hSS.out hE.out ?_ ?_
      · repeat (first | exact hN | refine Reg.NoQ.then ?_ | refine Reg.NoQ.inBlock ?_)
      · iterate 53 (intro _)
        intro w3 va3 vb3 l3 hS3 hE3
        have hS33 := hide hS3
        have hE33 := hide hE3
        clear hS3 hE3
        go_wp2_with fail
        exact ⟨⟨i + 1, va3, vb3, l3, by go_num, by omega, hS33.out, hE33.out⟩, by simp [intOf]; omega⟩
    · obtain rfl : i = l0.length := by omega
      go_wp2_with fail
      exact hQ _ _ _ _ _ _ _ _ _ _ _ _ _ _ _ _ _ _ _ _ _ _ _ _ _ _ _ _ _ _ _ _ _ _ _ _ _ _ _ _ _ _ _ _ _ _ _ _ _ _ _ _ _ _ _ _ _ _ _ wr va' vb' l' hSS.out (hE.out.imp (fun x' i' k' _ h2 _ h => by omega))

set_option maxHeartbeats 8000000 in
set_option maxRecDepth 100000 in
theorem joi_x {w2 w : World} {g3 g4 gp L n1 n2 d : Nat} {vl1 vb1 va1 vl2 vb2 va2 va vb : Value} {lf1 lf2 : Nat → Nat} {br1 br2 : Nat → Nat → Nat → Nat} {ac1 ac2 : Nat → Bool} (hX : JoiX w2 g3 g4 L n1 n2 vl1 vb1 va1 vl2 vb2 va2 lf1 lf2 br1 br2 ac1 ac2) (hNN : JoiN L n1 n2 lf1 lf2 br1 br2) (hn12 : n1 * n2 ≤ 20000) (hL : L ≤ 8)
    {l : List (Nat × Nat)} (hS : JoiS w2 w gp va vb l) (hM : Expl L (jLeaf lf1 lf2) (jBr br1 br2) l d)
    {u0 u1 u2 u5 u6 u8 u12 u13 u14 u15 u16 u17 u18 u19 u20 u21 u22 u23 u24 u25 u26 u27 u28 u29 u30 u31 u32 u33 u34 u35 u36 u37 u38 u39 u40 u41 u42 u43 u44 u45 u46 u47 u48 u49 u50 u51 u52 u53 u54 u55 u56 u57 u58 u59 u60 u61 u62 u63 u64 u65 u66 u67 u68 u69 u70 u71 u72 u73 u74 u75 u76 u77 u78 u79 u80 u81 u82 u83 u84 u85 u86 u87 u88 u89 u90 u91 u92 u93 u94 u95 u96 u97 u98 u99 u100 u101 u102 u103 u104 u105 u106 u107 u108 u109 u110 u111 u112 u113 u114 u115 u116 u117 u118 u119 u120 u121 u122 u123 u124 u125 u126 u127 u128 u129 u130 u131 u132 u133 u134 u135 u136 u137 u138 u139 u140 u141 u142 u143 u144 u145 u146 u147 u148 u149 u150 u151 u152 u153 u154 u155 u156 u157 u158 u159 u160 u161 u162 u163 u164 u165 u166 u167 u168 u169 u170 u171 u172 u173 u174 u175 u176 u177 u178 u179 u180 u181 u182 u183 u184 u185 u186 u187 u188 u189 u190 u191 u192 u193 u194 u195 u196 u197 u198 u199 u200 u201 u202 u203 u204 u205 u206 u207 u208 u209 u210 u211 u212 u213 u214 u215 u216 u217 u218 u219 u220 u221 u222 u223 u224 u225 u226 u227 u228 u229 : Value}
    {Q : Exit → Act → World → Prop} (hN : Reg.NoQ Q)
    (hQ : ∀ (x11 x12 x13 x44 x45 x46 x47 x48 x49 x50 x51 x52 x53 x54 x55 x56 x57 x58 x59 x60 x61 x62 x63 x64 x65 x66 x67 x68 x69 x70 x71 x72 x73 x74 x75 x76 x77 x78 x79 x80 x81 x82 x83 x84 x85 x86 x87 x88 x89 x90 x91 x92 x93 x94 x95 x96 x97 x98 x99 x100 x101 x102 x103 x104 x105 x106 : Value) (w' : World) (va' vb' : Value) (l' : List (Nat × Nat)), JoiS w2 w' gp va' vb' l' → Expl L (jLeaf lf1 lf2) (jBr br1 br2) l' l.length →
      Q (.exit 4) ⟨List.toArray (u0 :: u1 :: u2 :: (.pointer (some ⟨g3, 0, none⟩)) :: (.pointer (some ⟨g4, 0, none⟩)) :: u5 :: u6 :: (.pointer (some ⟨gp, 0, none⟩)) :: u8 :: (.int .i64 d) :: (.int .i64 l.length) :: x11 :: x12 :: x13 :: u14 :: u15 :: u16 :: u17 :: u18 :: u19 :: u20 :: u21 :: 
      u22 :: u23 :: u24 :: u25 :: u26 :: u27 :: u28 :: u29 :: u30 :: u31 :: u32 :: u33 :: u34 :: u35 :: u36 :: u37 :: u38 :: u39 :: u40 :: u41 :: u42 :: u43 :: x44 :: x45 :: x46 :: x47 :: x48 :: x49 :: x50 :: x51 :: x52 :: x53 :: x54 :: x55 :: x56 :: x57 :: x58 :: 
      x59 :: x60 :: x61 :: x62 :: x63 :: x64 :: x65 :: x66 :: x67 :: x68 :: x69 :: x70 :: x71 :: x72 :: x73 :: x74 :: x75 :: x76 :: x77 :: x78 :: x79 :: x80 :: x81 :: x82 :: x83 :: x84 :: x85 :: x86 :: x87 :: x88 :: x89 :: x90 :: x91 :: x92 :: x93 :: x94 :: x95 :: 
      x96 :: x97 :: x98 :: x99 :: x100 :: x101 :: x102 :: x103 :: x104 :: x105 :: x106 :: u107 :: u108 :: u109 :: u110 :: u111 :: u112 :: u113 :: u114 :: u115 :: u116 :: u117 :: u118 :: u119 :: u120 :: u121 :: u122 :: u123 :: u124 :: u125 :: u126 :: u127 :: u128 :: 
      u129 :: u130 :: u131 :: u132 :: u133 :: u134 :: u135 :: u136 :: u137 :: u138 :: u139 :: u140 :: u141 :: u142 :: u143 :: u144 :: u145 :: u146 :: u147 :: u148 :: u149 :: u150 :: u151 :: u152 :: u153 :: u154 :: u155 :: u156 :: u157 :: u158 :: u159 :: u160 :: u161 :: 
      u162 :: u163 :: u164 :: u165 :: u166 :: u167 :: u168 :: u169 :: u170 :: u171 :: u172 :: u173 :: u174 :: u175 :: u176 :: u177 :: u178 :: u179 :: u180 :: u181 :: u182 :: u183 :: u184 :: u185 :: u186 :: u187 :: u188 :: u189 :: u190 :: u191 :: u192 :: u193 :: u194 :: 
      u195 :: u196 :: u197 :: u198 :: u199 :: u200 :: u201 :: u202 :: u203 :: u204 :: u205 :: u206 :: u207 :: u208 :: u209 :: u210 :: u211 :: u212 :: u213 :: u214 :: u215 :: u216 :: u217 :: u218 :: u219 :: u220 :: u221 :: u222 :: u223 :: u224 :: u225 :: u226 :: u227 :: 
      u228 :: u229 :: []), []⟩ w') :
    (Code.loop (loopBody Try.f71 2)).wp Try.prog Q ⟨List.toArray (u0 :: u1 :: u2 :: (.pointer (some ⟨g3, 0, none⟩)) :: (.pointer (some ⟨g4, 0, none⟩)) :: u5 :: u6 :: (.pointer (some ⟨gp, 0, none⟩)) :: u8 :: (.int .i64 d) :: (.int .i64 l.length) :: (.int .i64 0) :: u12 :: u13 :: u14 :: u15 :: u16 :: u17 :: u18 :: u19 :: u20 :: 
      u21 :: u22 :: u23 :: u24 :: u25 :: u26 :: u27 :: u28 :: u29 :: u30 :: u31 :: u32 :: u33 :: u34 :: u35 :: u36 :: u37 :: u38 :: u39 :: u40 :: u41 :: u42 :: u43 :: u44 :: u45 :: u46 :: u47 :: u48 :: u49 :: u50 :: u51 :: u52 :: u53 :: u54 :: u55 :: u56 :: u57 :: 
      u58 :: u59 :: u60 :: u61 :: u62 :: u63 :: u64 :: u65 :: u66 :: u67 :: u68 :: u69 :: u70 :: u71 :: u72 :: u73 :: u74 :: u75 :: u76 :: u77 :: u78 :: u79 :: u80 :: u81 :: u82 :: u83 :: u84 :: u85 :: u86 :: u87 :: u88 :: u89 :: u90 :: u91 :: u92 :: u93 :: u94 :: 
      u95 :: u96 :: u97 :: u98 :: u99 :: u100 :: u101 :: u102 :: u103 :: u104 :: u105 :: u106 :: u107 :: u108 :: u109 :: u110 :: u111 :: u112 :: u113 :: u114 :: u115 :: u116 :: u117 :: u118 :: u119 :: u120 :: u121 :: u122 :: u123 :: u124 :: u125 :: u126 :: u127 :: 
      u128 :: u129 :: u130 :: u131 :: u132 :: u133 :: u134 :: u135 :: u136 :: u137 :: u138 :: u139 :: u140 :: u141 :: u142 :: u143 :: u144 :: u145 :: u146 :: u147 :: u148 :: u149 :: u150 :: u151 :: u152 :: u153 :: u154 :: u155 :: u156 :: u157 :: u158 :: u159 :: u160 :: 
      u161 :: u162 :: u163 :: u164 :: u165 :: u166 :: u167 :: u168 :: u169 :: u170 :: u171 :: u172 :: u173 :: u174 :: u175 :: u176 :: u177 :: u178 :: u179 :: u180 :: u181 :: u182 :: u183 :: u184 :: u185 :: u186 :: u187 :: u188 :: u189 :: u190 :: u191 :: u192 :: u193 :: 
      u194 :: u195 :: u196 :: u197 :: u198 :: u199 :: u200 :: u201 :: u202 :: u203 :: u204 :: u205 :: u206 :: u207 :: u208 :: u209 :: u210 :: u211 :: u212 :: u213 :: u214 :: u215 :: u216 :: u217 :: u218 :: u219 :: u220 :: u221 :: u222 :: u223 :: u224 :: u225 :: u226 :: 
      u227 :: u228 :: u229 :: []), []⟩ w := by
  conv => arg 2; arg 1; whnf
  have hMM := hide hM
  have hNH := hide hNN
  clear hM hNN
  go_loopw [11] (fun xx wr => ∃ (x : Nat) (va' vb' : Value) (l' : List (Nat × Nat)), xx = .int .i64 (x : Int) ∧ x ≤ L ∧ JoiS w2 wr gp va' vb' l' ∧
    Hid (ExpM L (jLeaf lf1 lf2) (jBr br1 br2) l l' d (fun x' _ _ => x' < x))) (fun xx _ => L - (intOf xx).toNat)
  case atStart => exact ⟨0, va, vb, l, rfl, Nat.zero_le _, hS, hMM.out.start.imp (fun x' i' k' _ _ _ h => by omega)⟩
  case round =>
    obtain ⟨x, va', vb', l', rfl, hx, hS', hE⟩ := hrel
    have hc3 := (hX.at hS'.below).b1.cell
    have hSS := hide hS'
    clear hS'
    by_cases hlt : x < L
    · go_wp2_with fail
      refine joi_i hX hNH.out hn12 hlt hSS.out hE.out ?_ ?_
      · repeat (first | exact hN | refine Reg.NoQ.then ?_ | refine Reg.NoQ.inBlock ?_)
      · iterate 59 (intro _)
        intro w3 va3 vb3 l3 hS3 hE3
        have hS33 := hide hS3
        have hE33 := hide hE3
        clear hS3 hE3 hc3
        go_wp2_with fail
        exact ⟨⟨x + 1, va3, vb3, l3, by go_num, by omega, hS33.out, hE33.out⟩, by simp [intOf]; omega⟩
    · obtain rfl : x = L := by omega
      go_wp2_with fail
      exact hQ _ _ _ _ _ _ _ _ _ _ _ _ _ _ _ _ _ _ _ _ _ _ _ _ _ _ _ _ _ _ _ _ _ _ _ _ _ _ _ _ _ _ _ _ _ _ _ _ _ _ _ _ _ _ _ _ _ _ _ _ _ _ _ _ _ _ wr va' vb' l' hSS.out (hE.out.finish (fun x' i' k' h1 _ _ => h1))

set_option maxHeartbeats 8000000 in
set_option maxRecDepth 100000 in
theorem joi_rounds {w2 w : World} {g3 g4 gp L n1 n2 : Nat} {vl1 vb1 va1 vl2 vb2 va2 va vb : Value} {lf1 lf2 : Nat → Nat} {br1 br2 : Nat → Nat → Nat → Nat} {ac1 ac2 : Nat → Bool} (hX : JoiX w2 g3 g4 L n1 n2 vl1 vb1 va1 vl2 vb2 va2 lf1 lf2 br1 br2 ac1 ac2) (hNN : JoiN L n1 n2 lf1 lf2 br1 br2) (hn12 : n1 * n2 ≤ 20000) (hL : L ≤ 8)
    {l : List (Nat × Nat)} (hS : JoiS w2 w gp va vb l) (hM : Expl L (jLeaf lf1 lf2) (jBr br1 br2) l 0)
    {u0 u1 u2 u5 u6 u8 u10 u11 u12 u13 u14 u15 u16 u17 u18 u19 u20 u21 u22 u23 u24 u25 u26 u27 u28 u29 u30 u31 u32 u33 u34 u35 u36 u37 u38 u39 u40 u41 u42 u43 u44 u45 u46 u47 u48 u49 u50 u51 u52 u53 u54 u55 u56 u57 u58 u59 u60 u61 u62 u63 u64 u65 u66 u67 u68 u69 u70 u71 u72 u73 u74 u75 u76 u77 u78 u79 u80 u81 u82 u83 u84 u85 u86 u87 u88 u89 u90 u91 u92 u93 u94 u95 u96 u97 u98 u99 u100 u101 u102 u103 u104 u105 u106 u107 u108 u109 u110 u111 u112 u113 u114 u115 u116 u117 u118 u119 u120 u121 u122 u123 u124 u125 u126 u127 u128 u129 u130 u131 u132 u133 u134 u135 u136 u137 u138 u139 u140 u141 u142 u143 u144 u145 u146 u147 u148 u149 u150 u151 u152 u153 u154 u155 u156 u157 u158 u159 u160 u161 u162 u163 u164 u165 u166 u167 u168 u169 u170 u171 u172 u173 u174 u175 u176 u177 u178 u179 u180 u181 u182 u183 u184 u185 u186 u187 u188 u189 u190 u191 u192 u193 u194 u195 u196 u197 u198 u199 u200 u201 u202 u203 u204 u205 u206 u207 u208 u209 u210 u211 u212 u213 u214 u215 u216 u217 u218 u219 u220 u221 u222 u223 u224 u225 u226 u227 u228 u229 : Value}
    {Q : Exit → Act → World → Prop} (hN : Reg.NoQ Q)
    (hQ : ∀ (x9 x10 x11 x12 x13 x36 x37 x38 x39 x40 x41 x42 x43 x44 x45 x46 x47 x48 x49 x50 x51 x52 x53 x54 x55 x56 x57 x58 x59 x60 x61 x62 x63 x64 x65 x66 x67 x68 x69 x70 x71 x72 x73 x74 x75 x76 x77 x78 x79 x80 x81 x82 x83 x84 x85 x86 x87 x88 x89 x90 x91 x92 x93 x94 x95 x96 x97 x98 x99 x100 x101 x102 x103 x104 x105 x106 x107 : Value) (w' : World) (va' vb' : Value) (l' : List (Nat × Nat)), JoiS w2 w' gp va' vb' l' → Expl L (jLeaf lf1 lf2) (jBr br1 br2) l' l'.length →
      Q (.exit 2) ⟨List.toArray (u0 :: u1 :: u2 :: (.pointer (some ⟨g3, 0, none⟩)) :: (.pointer (some ⟨g4, 0, none⟩)) :: u5 :: u6 :: (.pointer (some ⟨gp, 0, none⟩)) :: u8 :: x9 :: x10 :: x11 :: x12 :: x13 :: u14 :: u15 :: u16 :: u17 :: u18 :: u19 :: u20 :: u21 :: u22 :: u23 :: u24 :: u25 :: 
      u26 :: u27 :: u28 :: u29 :: u30 :: u31 :: u32 :: u33 :: u34 :: u35 :: x36 :: x37 :: x38 :: x39 :: x40 :: x41 :: x42 :: x43 :: x44 :: x45 :: x46 :: x47 :: x48 :: x49 :: x50 :: x51 :: x52 :: x53 :: x54 :: x55 :: x56 :: x57 :: x58 :: x59 :: x60 :: x61 :: x62 :: 
      x63 :: x64 :: x65 :: x66 :: x67 :: x68 :: x69 :: x70 :: x71 :: x72 :: x73 :: x74 :: x75 :: x76 :: x77 :: x78 :: x79 :: x80 :: x81 :: x82 :: x83 :: x84 :: x85 :: x86 :: x87 :: x88 :: x89 :: x90 :: x91 :: x92 :: x93 :: x94 :: x95 :: x96 :: x97 :: x98 :: x99 :: 
      x100 :: x101 :: x102 :: x103 :: x104 :: x105 :: x106 :: x107 :: u108 :: u109 :: u110 :: u111 :: u112 :: u113 :: u114 :: u115 :: u116 :: u117 :: u118 :: u119 :: u120 :: u121 :: u122 :: u123 :: u124 :: u125 :: u126 :: u127 :: u128 :: u129 :: u130 :: u131 :: u132 :: 
      u133 :: u134 :: u135 :: u136 :: u137 :: u138 :: u139 :: u140 :: u141 :: u142 :: u143 :: u144 :: u145 :: u146 :: u147 :: u148 :: u149 :: u150 :: u151 :: u152 :: u153 :: u154 :: u155 :: u156 :: u157 :: u158 :: u159 :: u160 :: u161 :: u162 :: u163 :: u164 :: u165 :: 
      u166 :: u167 :: u168 :: u169 :: u170 :: u171 :: u172 :: u173 :: u174 :: u175 :: u176 :: u177 :: u178 :: u179 :: u180 :: u181 :: u182 :: u183 :: u184 :: u185 :: u186 :: u187 :: u188 :: u189 :: u190 :: u191 :: u192 :: u193 :: u194 :: u195 :: u196 :: u197 :: u198 :: 
      u199 :: u200 :: u201 :: u202 :: u203 :: u204 :: u205 :: u206 :: u207 :: u208 :: u209 :: u210 :: u211 :: u212 :: u213 :: u214 :: u215 :: u216 :: u217 :: u218 :: u219 :: u220 :: u221 :: u222 :: u223 :: u224 :: u225 :: u226 :: u227 :: u228 :: u229 :: []), []⟩ w') :
    (Code.loop (loopBody Try.f71 1)).wp Try.prog Q ⟨List.toArray (u0 :: u1 :: u2 :: (.pointer (some ⟨g3, 0, none⟩)) :: (.pointer (some ⟨g4, 0, none⟩)) :: u5 :: u6 :: (.pointer (some ⟨gp, 0, none⟩)) :: u8 :: (.int .i64 0) :: u10 :: u11 :: u12 :: u13 :: u14 :: u15 :: u16 :: u17 :: u18 :: u19 :: u20 :: u21 :: u22 :: u23 :: u24 :: 
      u25 :: u26 :: u27 :: u28 :: u29 :: u30 :: u31 :: u32 :: u33 :: u34 :: u35 :: u36 :: u37 :: u38 :: u39 :: u40 :: u41 :: u42 :: u43 :: u44 :: u45 :: u46 :: u47 :: u48 :: u49 :: u50 :: u51 :: u52 :: u53 :: u54 :: u55 :: u56 :: u57 :: u58 :: u59 :: u60 :: u61 :: 
      u62 :: u63 :: u64 :: u65 :: u66 :: u67 :: u68 :: u69 :: u70 :: u71 :: u72 :: u73 :: u74 :: u75 :: u76 :: u77 :: u78 :: u79 :: u80 :: u81 :: u82 :: u83 :: u84 :: u85 :: u86 :: u87 :: u88 :: u89 :: u90 :: u91 :: u92 :: u93 :: u94 :: u95 :: u96 :: u97 :: u98 :: 
      u99 :: u100 :: u101 :: u102 :: u103 :: u104 :: u105 :: u106 :: u107 :: u108 :: u109 :: u110 :: u111 :: u112 :: u113 :: u114 :: u115 :: u116 :: u117 :: u118 :: u119 :: u120 :: u121 :: u122 :: u123 :: u124 :: u125 :: u126 :: u127 :: u128 :: u129 :: u130 :: u131 :: 
      u132 :: u133 :: u134 :: u135 :: u136 :: u137 :: u138 :: u139 :: u140 :: u141 :: u142 :: u143 :: u144 :: u145 :: u146 :: u147 :: u148 :: u149 :: u150 :: u151 :: u152 :: u153 :: u154 :: u155 :: u156 :: u157 :: u158 :: u159 :: u160 :: u161 :: u162 :: u163 :: u164 :: 
      u165 :: u166 :: u167 :: u168 :: u169 :: u170 :: u171 :: u172 :: u173 :: u174 :: u175 :: u176 :: u177 :: u178 :: u179 :: u180 :: u181 :: u182 :: u183 :: u184 :: u185 :: u186 :: u187 :: u188 :: u189 :: u190 :: u191 :: u192 :: u193 :: u194 :: u195 :: u196 :: u197 :: 
      u198 :: u199 :: u200 :: u201 :: u202 :: u203 :: u204 :: u205 :: u206 :: u207 :: u208 :: u209 :: u210 :: u211 :: u212 :: u213 :: u214 :: u215 :: u216 :: u217 :: u218 :: u219 :: u220 :: u221 :: u222 :: u223 :: u224 :: u225 :: u226 :: u227 :: u228 :: u229 :: []), []⟩ w := by
  conv => arg 2; arg 1; whnf
  have hMM := hide hM
  have hNH := hide hNN
  clear hM hNN
  go_loopw [9] (fun dd wr => ∃ (d : Nat) (va' vb' : Value) (l' : List (Nat × Nat)), dd = .int .i64 (d : Int) ∧ JoiS w2 wr gp va' vb' l' ∧ d ≤ l'.length ∧ l'.length ≤ 20000 ∧ Hid (Expl L (jLeaf lf1 lf2) (jBr br1 br2) l' d)) (fun dd _ => 20000 - (intOf dd).toNat)
  case atStart => exact ⟨0, va, vb, l, rfl, hS, Nat.zero_le _, Nat.le_trans (hNH.out.len hMM.out.nodup hMM.out.reach) hn12, hMM.out⟩
  case round =>
    obtain ⟨d, va', vb', l', rfl, hS', hd, hl', hE⟩ := hrel
    obtain ⟨A, c, rfl⟩ := slice_of_own hS'.pr.owa
    have hcs := hS'.pr.blk.cell
    have hSS := hide hS'
    clear hS'
    by_cases hlt : d < l'.length
    · go_wp2_with fail
      refine joi_x hX hNH.out hn12 hL hSS.out hE.out ?_ ?_
      · repeat (first | exact hN | refine Reg.NoQ.then ?_ | refine Reg.NoQ.inBlock ?_)
      · iterate 66 (intro _)
        intro w3 va3 vb3 l3 hS3 hE3
        have hle := hE3.le
        have hl3 := Nat.le_trans (hNH.out.len hE3.nodup hE3.reach) hn12
        have hS33 := hide hS3
        have hE33 := hide hE3
        clear hS3 hE3 hcs
        go_wp2_with fail
        exact ⟨⟨l'.length, va3, vb3, l3, rfl, hS33.out, hle, hl3, hE33.out⟩, by simp [intOf]; omega⟩
    · have e : d = l'.length := by omega
      have hEE := hE.out
      rw [e] at hEE
      have hE2 := hide hEE
      clear e hEE hE
      go_wp2_with fail
      exact hQ _ _ _ _ _ _ _ _ _ _ _ _ _ _ _ _ _ _ _ _ _ _ _ _ _ _ _ _ _ _ _ _ _ _ _ _ _ _ _ _ _ _ _ _ _ _ _ _ _ _ _ _ _ _ _ _ _ _ _ _ _ _ _ _ _ _ _ _ _ _ _ _ _ _ _ _ _ wr _ vb' l' hSS.out hE2.out

set_option maxHeartbeats 8000000 in
set_option maxRecDepth 100000 in
theorem joi_leaves {w2 w : World} {g3 g4 gp L n1 n2 : Nat} {vl1 vb1 va1 vl2 vb2 va2 : Value} {lf1 lf2 : Nat → Nat} {br1 br2 : Nat → Nat → Nat → Nat} {ac1 ac2 : Nat → Bool} (hX : JoiX w2 g3 g4 L n1 n2 vl1 vb1 va1 vl2 vb2 va2 lf1 lf2 br1 br2 ac1 ac2) (hL : L ≤ 8)
    (hS : JoiS w2 w gp (.slice none 0 0) (.slice none 0 0) [])
    {u0 u1 u2 u5 u6 u9 u10 u11 u12 u13 u14 u15 u16 u17 u18 u19 u20 u21 u22 u23 u24 u25 u26 u27 u28 u29 u30 u31 u32 u33 u34 u35 u36 u37 u38 u39 u40 u41 u42 u43 u44 u45 u46 u47 u48 u49 u50 u51 u52 u53 u54 u55 u56 u57 u58 u59 u60 u61 u62 u63 u64 u65 u66 u67 u68 u69 u70 u71 u72 u73 u74 u75 u76 u77 u78 u79 u80 u81 u82 u83 u84 u85 u86 u87 u88 u89 u90 u91 u92 u93 u94 u95 u96 u97 u98 u99 u100 u101 u102 u103 u104 u105 u106 u107 u108 u109 u110 u111 u112 u113 u114 u115 u116 u117 u118 u119 u120 u121 u122 u123 u124 u125 u126 u127 u128 u129 u130 u131 u132 u133 u134 u135 u136 u137 u138 u139 u140 u141 u142 u143 u144 u145 u146 u147 u148 u149 u150 u151 u152 u153 u154 u155 u156 u157 u158 u159 u160 u161 u162 u163 u164 u165 u166 u167 u168 u169 u170 u171 u172 u173 u174 u175 u176 u177 u178 u179 u180 u181 u182 u183 u184 u185 u186 u187 u188 u189 u190 u191 u192 u193 u194 u195 u196 u197 u198 u199 u200 u201 u202 u203 u204 u205 u206 u207 u208 u209 u210 u211 u212 u213 u214 u215 u216 u217 u218 u219 u220 u221 u222 u223 u224 u225 u226 u227 u228 u229 : Value}
    {Q : Exit → Act → World → Prop} (hN : Reg.NoQ Q)
    (hQ : ∀ (x8 x19 x20 x21 x22 x23 x24 x25 x26 x27 x28 x29 x30 x31 x32 x33 x34 x35 : Value) (w' : World) (va' vb' : Value) (l' : List (Nat × Nat)), JoiS w2 w' gp va' vb' l' → Expl L (jLeaf lf1 lf2) (jBr br1 br2) l' 0 →
      Q (.exit 0) ⟨List.toArray (u0 :: u1 :: u2 :: (.pointer (some ⟨g3, 0, none⟩)) :: (.pointer (some ⟨g4, 0, none⟩)) :: u5 :: u6 :: (.pointer (some ⟨gp, 0, none⟩)) :: x8 :: u9 :: u10 :: u11 :: u12 :: u13 :: u14 :: u15 :: u16 :: u17 :: u18 :: x19 :: x20 :: x21 :: x22 :: x23 :: x24 :: x25 :: 
      x26 :: x27 :: x28 :: x29 :: x30 :: x31 :: x32 :: x33 :: x34 :: x35 :: u36 :: u37 :: u38 :: u39 :: u40 :: u41 :: u42 :: u43 :: u44 :: u45 :: u46 :: u47 :: u48 :: u49 :: u50 :: u51 :: u52 :: u53 :: u54 :: u55 :: u56 :: u57 :: u58 :: u59 :: u60 :: u61 :: u62 :: 
      u63 :: u64 :: u65 :: u66 :: u67 :: u68 :: u69 :: u70 :: u71 :: u72 :: u73 :: u74 :: u75 :: u76 :: u77 :: u78 :: u79 :: u80 :: u81 :: u82 :: u83 :: u84 :: u85 :: u86 :: u87 :: u88 :: u89 :: u90 :: u91 :: u92 :: u93 :: u94 :: u95 :: u96 :: u97 :: u98 :: u99 :: 
      u100 :: u101 :: u102 :: u103 :: u104 :: u105 :: u106 :: u107 :: u108 :: u109 :: u110 :: u111 :: u112 :: u113 :: u114 :: u115 :: u116 :: u117 :: u118 :: u119 :: u120 :: u121 :: u122 :: u123 :: u124 :: u125 :: u126 :: u127 :: u128 :: u129 :: u130 :: u131 :: u132 :: 
      u133 :: u134 :: u135 :: u136 :: u137 :: u138 :: u139 :: u140 :: u141 :: u142 :: u143 :: u144 :: u145 :: u146 :: u147 :: u148 :: u149 :: u150 :: u151 :: u152 :: u153 :: u154 :: u155 :: u156 :: u157 :: u158 :: u159 :: u160 :: u161 :: u162 :: u163 :: u164 :: u165 :: 
      u166 :: u167 :: u168 :: u169 :: u170 :: u171 :: u172 :: u173 :: u174 :: u175 :: u176 :: u177 :: u178 :: u179 :: u180 :: u181 :: u182 :: u183 :: u184 :: u185 :: u186 :: u187 :: u188 :: u189 :: u190 :: u191 :: u192 :: u193 :: u194 :: u195 :: u196 :: u197 :: u198 :: 
      u199 :: u200 :: u201 :: u202 :: u203 :: u204 :: u205 :: u206 :: u207 :: u208 :: u209 :: u210 :: u211 :: u212 :: u213 :: u214 :: u215 :: u216 :: u217 :: u218 :: u219 :: u220 :: u221 :: u222 :: u223 :: u224 :: u225 :: u226 :: u227 :: u228 :: u229 :: []), []⟩ w') :
    (Code.loop (loopBody Try.f71 0)).wp Try.prog Q ⟨List.toArray (u0 :: u1 :: u2 :: (.pointer (some ⟨g3, 0, none⟩)) :: (.pointer (some ⟨g4, 0, none⟩)) :: u5 :: u6 :: (.pointer (some ⟨gp, 0, none⟩)) :: (.int .i64 0) :: u9 :: u10 :: u11 :: u12 :: u13 :: u14 :: u15 :: u16 :: u17 :: u18 :: u19 :: u20 :: u21 :: u22 :: u23 :: u24 :: 
      u25 :: u26 :: u27 :: u28 :: u29 :: u30 :: u31 :: u32 :: u33 :: u34 :: u35 :: u36 :: u37 :: u38 :: u39 :: u40 :: u41 :: u42 :: u43 :: u44 :: u45 :: u46 :: u47 :: u48 :: u49 :: u50 :: u51 :: u52 :: u53 :: u54 :: u55 :: u56 :: u57 :: u58 :: u59 :: u60 :: u61 :: 
      u62 :: u63 :: u64 :: u65 :: u66 :: u67 :: u68 :: u69 :: u70 :: u71 :: u72 :: u73 :: u74 :: u75 :: u76 :: u77 :: u78 :: u79 :: u80 :: u81 :: u82 :: u83 :: u84 :: u85 :: u86 :: u87 :: u88 :: u89 :: u90 :: u91 :: u92 :: u93 :: u94 :: u95 :: u96 :: u97 :: u98 :: 
      u99 :: u100 :: u101 :: u102 :: u103 :: u104 :: u105 :: u106 :: u107 :: u108 :: u109 :: u110 :: u111 :: u112 :: u113 :: u114 :: u115 :: u116 :: u117 :: u118 :: u119 :: u120 :: u121 :: u122 :: u123 :: u124 :: u125 :: u126 :: u127 :: u128 :: u129 :: u130 :: u131 :: 
      u132 :: u133 :: u134 :: u135 :: u136 :: u137 :: u138 :: u139 :: u140 :: u141 :: u142 :: u143 :: u144 :: u145 :: u146 :: u147 :: u148 :: u149 :: u150 :: u151 :: u152 :: u153 :: u154 :: u155 :: u156 :: u157 :: u158 :: u159 :: u160 :: u161 :: u162 :: u163 :: u164 :: 
      u165 :: u166 :: u167 :: u168 :: u169 :: u170 :: u171 :: u172 :: u173 :: u174 :: u175 :: u176 :: u177 :: u178 :: u179 :: u180 :: u181 :: u182 :: u183 :: u184 :: u185 :: u186 :: u187 :: u188 :: u189 :: u190 :: u191 :: u192 :: u193 :: u194 :: u195 :: u196 :: u197 :: 
      u198 :: u199 :: u200 :: u201 :: u202 :: u203 :: u204 :: u205 :: u206 :: u207 :: u208 :: u209 :: u210 :: u211 :: u212 :: u213 :: u214 :: u215 :: u216 :: u217 :: u218 :: u219 :: u220 :: u221 :: u222 :: u223 :: u224 :: u225 :: u226 :: u227 :: u228 :: u229 :: []), []⟩ w := by
  conv => arg 2; arg 1; whnf
  obtain ⟨gl1, cl1, rfl, hl1⟩ := hX.t1.leaf
  obtain ⟨gl2, cl2, rfl, hl2⟩ := hX.t2.leaf
  have hl1H := hide hl1
  have hl2H := hide hl2
  clear hl1 hl2
  go_loopw [8] (fun xx wr => ∃ (x : Nat) (va' vb' : Value) (l' : List (Nat × Nat)), xx = .int .i64 (x : Int) ∧ x ≤ L ∧ JoiS w2 wr gp va' vb' l' ∧ l'.length ≤ x ∧
    Hid (l' = (List.range x).foldl (fun l x => meetL l (jLeaf lf1 lf2 x)) [])) (fun xx _ => L - (intOf xx).toNat)
  case atStart => exact ⟨0, _, _, [], rfl, Nat.zero_le _, hS, Nat.le_refl _, rfl⟩
  case round =>
    obtain ⟨x, va', vb', l', rfl, hx, hS', hl, hE⟩ := hrel
    have hXr := hX.at hS'.below
    have hc3 := hXr.b1.cell
    by_cases hlt : x < L
    · have hc4 := hXr.b2.cell
      have m1 := (hS'.below.cell (cell_lt' (hl1H.out x hlt))).trans (hl1H.out x hlt)
      have m2 := (hS'.below.cell (cell_lt' (hl2H.out x hlt))).trans (hl2H.out x hlt)
      have hSS := hide hS'.drew
      clear hS' hXr
      go_wp2_with fail
      refine Reg.region_plain [0, 1, 0, 7, 15, 0, 32, 0, 224, 480, 1023] (by kernel_rfl) (by repeat (first | exact hN | refine Reg.NoQ.then ?_ | refine Reg.NoQ.inBlock ?_)) ?_
      go_wp2_with (go_at_call 94; refine Calls.ret (hSS.out.number (lf1 x) (lf2 x) (by omega)) ?_; rintro r w5 ⟨rfl, va5, vb5, hS5⟩)
      have hlm := length_meetL l' (lf1 x, lf2 x)
      refine ⟨⟨x + 1, va5, vb5, _, by go_num, by omega, hS5, by omega, ?_⟩, by simp [intOf]; omega⟩
      show _ = _
      rw [List.range_succ, List.foldl_append, ← hE.out]
      rfl
    · obtain rfl : x = L := by omega
      have hSH := hide hS'
      clear hS' hXr
      go_wp2_with fail
      exact hQ _ _ _ _ _ _ _ _ _ _ _ _ _ _ _ _ _ _ wr va' vb' l' hSH.out (Expl.first hE.out)
end Go.Proofs.Ytnimlcbgeiajiaa

namespace Go.Proofs.Ytnimlcbgeiajiaa
open Go.RowKit

set_option maxHeartbeats 8000000 in
set_option maxRecDepth 100000 in
theorem joi_fk {w2 wB w : World} {g3 g4 gp g14 gl ga gv cv L n1 n2 x i : Nat} {gi ci : Nat → Nat} {gj : Nat → Nat → Nat} {vl1 vb1 va1 vl2 vb2 va2 va vb : Value} {lf1 lf2 : Nat → Nat} {br1 br2 : Nat → Nat → Nat → Nat} {ac1 ac2 : Nat → Bool} (hX : JoiX w2 g3 g4 L n1 n2 vl1 vb1 va1 vl2 vb2 va2 lf1 lf2 br1 br2 ac1 ac2) (hNN : JoiN L n1 n2 lf1 lf2 br1 br2)
    {l : List (Nat × Nat)} (hS : JoiS w2 wB gp va vb l) (hE : Expl L (jLeaf lf1 lf2) (jBr br1 br2) l l.length) (hl : l.length ≤ 20000) (hx : x < L) (hi : i < l.length)
    {lf : Nat → Nat} {br : Nat → Nat → Nat → Nat} {ac : Nat → Bool} (hT : SubT wB w L l.length g14 gl ga gv cv gi ci gj lf br ac) (hO : ∀ x' i' k', x' < L → i' < l.length → k' < l.length → (x' < x ∨ x' = x ∧ i' < i) → br x' i' k' = tabBr (jBr br1 br2) l x' i' k')
    {u0 u1 u2 u5 u6 u8 u9 u10 u11 u12 u13 u18 u19 u20 u21 u22 u23 u24 u25 u26 u27 u28 u29 u30 u31 u32 u33 u34 u35 u36 u37 u38 u39 u40 u41 u42 u43 u44 u45 u46 u47 u48 u49 u50 u51 u52 u53 u54 u55 u56 u57 u58 u59 u60 u61 u62 u63 u64 u65 u66 u67 u68 u69 u70 u71 u72 u73 u74 u75 u76 u77 u78 u79 u80 u81 u82 u83 u84 u85 u86 u87 u88 u89 u90 u91 u92 u93 u94 u95 u96 u97 u98 u99 u100 u101 u102 u103 u104 u105 u106 u107 u108 u109 u110 u111 u112 u113 u114 u115 u116 u117 u118 u119 u120 u121 u122 u123 u124 u125 u126 u127 u128 u129 u130 u131 u132 u133 u134 u135 u136 u137 u138 u139 u140 u141 u142 u143 u144 u145 u146 u147 u148 u149 u150 u151 u152 u153 u154 u155 u156 u157 u158 u159 u160 u161 u162 u163 u164 u165 u166 u167 u168 u169 u170 u171 u172 u173 u174 u175 u176 u177 u178 u179 u180 u181 u182 u183 u184 u185 u186 u187 u188 u189 u190 u191 u192 u193 u194 u195 u196 u197 u198 u199 u200 u201 u202 u203 u204 u205 u206 u207 u208 u209 u210 u211 u212 u213 u214 u215 u216 u217 u218 u219 u220 u221 u222 u223 u224 u225 u226 u227 u228 u229 : Value}
    {Q : Exit → Act → World → Prop} (hN : Reg.NoQ Q)
    (hQ : ∀ (x17 x142 x143 x144 x145 x146 x147 x148 x149 x150 x151 x152 x153 x154 x155 x156 x157 x158 x159 x160 x161 x162 x163 x164 x165 x166 x167 x168 x169 x170 x171 x172 x173 x174 x175 x176 x177 x178 x179 x180 x181 x182 x183 x184 x185 x186 x187 x188 x189 x190 x191 x192 x193 x194 x195 x196 x197 : Value) (w' : World) (br' : Nat → Nat → Nat → Nat), SubT wB w' L l.length g14 gl ga gv cv gi ci gj lf br' ac → (∀ x' i' k', x' < L → i' < l.length → k' < l.length → (x' < x ∨ x' = x ∧ i' < i + 1) → br' x' i' k' = tabBr (jBr br1 br2) l x' i' k') →
      Q (.exit 14) ⟨List.toArray (u0 :: u1 :: u2 :: (.pointer (some ⟨g3, 0, none⟩)) :: (.pointer (some ⟨g4, 0, none⟩)) :: u5 :: u6 :: (.pointer (some ⟨gp, 0, none⟩)) :: u8 :: u9 :: u10 :: u11 :: u12 :: u13 :: (.pointer (some ⟨g14, 0, none⟩)) :: (.int .i64 x) :: (.int .i64 i) :: x17 :: u18 :: 
      u19 :: u20 :: u21 :: u22 :: u23 :: u24 :: u25 :: u26 :: u27 :: u28 :: u29 :: u30 :: u31 :: u32 :: u33 :: u34 :: u35 :: u36 :: u37 :: u38 :: u39 :: u40 :: u41 :: u42 :: u43 :: u44 :: u45 :: u46 :: u47 :: u48 :: u49 :: u50 :: u51 :: u52 :: u53 :: u54 :: u55 :: 
      u56 :: u57 :: u58 :: u59 :: u60 :: u61 :: u62 :: u63 :: u64 :: u65 :: u66 :: u67 :: u68 :: u69 :: u70 :: u71 :: u72 :: u73 :: u74 :: u75 :: u76 :: u77 :: u78 :: u79 :: u80 :: u81 :: u82 :: u83 :: u84 :: u85 :: u86 :: u87 :: u88 :: u89 :: u90 :: u91 :: u92 :: 
      u93 :: u94 :: u95 :: u96 :: u97 :: u98 :: u99 :: u100 :: u101 :: u102 :: u103 :: u104 :: u105 :: u106 :: u107 :: u108 :: u109 :: u110 :: u111 :: u112 :: u113 :: u114 :: u115 :: u116 :: u117 :: u118 :: u119 :: u120 :: u121 :: u122 :: u123 :: u124 :: u125 :: 
      u126 :: u127 :: u128 :: u129 :: u130 :: u131 :: u132 :: u133 :: u134 :: u135 :: u136 :: u137 :: u138 :: u139 :: u140 :: u141 :: x142 :: x143 :: x144 :: x145 :: x146 :: x147 :: x148 :: x149 :: x150 :: x151 :: x152 :: x153 :: x154 :: x155 :: x156 :: x157 :: x158 :: 
      x159 :: x160 :: x161 :: x162 :: x163 :: x164 :: x165 :: x166 :: x167 :: x168 :: x169 :: x170 :: x171 :: x172 :: x173 :: x174 :: x175 :: x176 :: x177 :: x178 :: x179 :: x180 :: x181 :: x182 :: x183 :: x184 :: x185 :: x186 :: x187 :: x188 :: x189 :: x190 :: x191 :: 
      x192 :: x193 :: x194 :: x195 :: x196 :: x197 :: u198 :: u199 :: u200 :: u201 :: u202 :: u203 :: u204 :: u205 :: u206 :: u207 :: u208 :: u209 :: u210 :: u211 :: u212 :: u213 :: u214 :: u215 :: u216 :: u217 :: u218 :: u219 :: u220 :: u221 :: u222 :: u223 :: u224 :: 
      u225 :: u226 :: u227 :: u228 :: u229 :: []), []⟩ w') :
    (Code.loop (loopBody Try.f71 7)).wp Try.prog Q ⟨List.toArray (u0 :: u1 :: u2 :: (.pointer (some ⟨g3, 0, none⟩)) :: (.pointer (some ⟨g4, 0, none⟩)) :: u5 :: u6 :: (.pointer (some ⟨gp, 0, none⟩)) :: u8 :: u9 :: u10 :: u11 :: u12 :: u13 :: (.pointer (some ⟨g14, 0, none⟩)) :: (.int .i64 x) :: (.int .i64 i) :: (.int .i64 0) :: 
      u18 :: u19 :: u20 :: u21 :: u22 :: u23 :: u24 :: u25 :: u26 :: u27 :: u28 :: u29 :: u30 :: u31 :: u32 :: u33 :: u34 :: u35 :: u36 :: u37 :: u38 :: u39 :: u40 :: u41 :: u42 :: u43 :: u44 :: u45 :: u46 :: u47 :: u48 :: u49 :: u50 :: u51 :: u52 :: u53 :: u54 :: 
      u55 :: u56 :: u57 :: u58 :: u59 :: u60 :: u61 :: u62 :: u63 :: u64 :: u65 :: u66 :: u67 :: u68 :: u69 :: u70 :: u71 :: u72 :: u73 :: u74 :: u75 :: u76 :: u77 :: u78 :: u79 :: u80 :: u81 :: u82 :: u83 :: u84 :: u85 :: u86 :: u87 :: u88 :: u89 :: u90 :: u91 :: 
      u92 :: u93 :: u94 :: u95 :: u96 :: u97 :: u98 :: u99 :: u100 :: u101 :: u102 :: u103 :: u104 :: u105 :: u106 :: u107 :: u108 :: u109 :: u110 :: u111 :: u112 :: u113 :: u114 :: u115 :: u116 :: u117 :: u118 :: u119 :: u120 :: u121 :: u122 :: u123 :: u124 :: u125 :: 
      u126 :: u127 :: u128 :: u129 :: u130 :: u131 :: u132 :: u133 :: u134 :: u135 :: u136 :: u137 :: u138 :: u139 :: u140 :: u141 :: u142 :: u143 :: u144 :: u145 :: u146 :: u147 :: u148 :: u149 :: u150 :: u151 :: u152 :: u153 :: u154 :: u155 :: u156 :: u157 :: u158 :: 
      u159 :: u160 :: u161 :: u162 :: u163 :: u164 :: u165 :: u166 :: u167 :: u168 :: u169 :: u170 :: u171 :: u172 :: u173 :: u174 :: u175 :: u176 :: u177 :: u178 :: u179 :: u180 :: u181 :: u182 :: u183 :: u184 :: u185 :: u186 :: u187 :: u188 :: u189 :: u190 :: u191 :: 
      u192 :: u193 :: u194 :: u195 :: u196 :: u197 :: u198 :: u199 :: u200 :: u201 :: u202 :: u203 :: u204 :: u205 :: u206 :: u207 :: u208 :: u209 :: u210 :: u211 :: u212 :: u213 :: u214 :: u215 :: u216 :: u217 :: u218 :: u219 :: u220 :: u221 :: u222 :: u223 :: u224 :: 
      u225 :: u226 :: u227 :: u228 :: u229 :: []), []⟩ w := by
  conv => arg 2; arg 1; whnf
  have hOO := hide hO
  have hEE := hide hE
  have hNH := hide hNN
  clear hO hE hNN
  obtain ⟨gv1, cv1, gi1, ci1, gj1, cj1, rfl, ht1⟩ := hX.t1.tab
  obtain ⟨gv2, cv2, gi2, ci2, gj2, cj2, rfl, ht2⟩ := hX.t2.tab
  have ht1H := hide ht1
  have ht2H := hide ht2
  clear ht1 ht2
  obtain ⟨gla, cla, glb, clb, p1, p2, rfl, rfl, hls, -, -⟩ := hS.get hi
  have hlsH := hide hls
  clear hls
  go_loopw [17] (fun kk wr => ∃ (k : Nat) (br' : Nat → Nat → Nat → Nat), kk = .int .i64 (k : Int) ∧ k ≤ l.length ∧ SubT wB wr L l.length g14 gl ga gv cv gi ci gj lf br' ac ∧
    Hid (∀ x' i' k', x' < L → i' < l.length → k' < l.length → (x' < x ∨ x' = x ∧ i' < i ∨ x' = x ∧ i' = i ∧ k' < k) → br' x' i' k' = tabBr (jBr br1 br2) l x' i' k')) (fun kk _ => l.length - (intOf kk).toNat)
  case atStart => exact ⟨0, br, rfl, Nat.zero_le _, hT, fun x' i' k' h1 h2 h3 h => hOO.out x' i' k' h1 h2 h3 (by omega)⟩
  case round =>
    obtain ⟨k, br', rfl, hk, hT', hO'⟩ := hrel
    have hSr := hS.call hT'.below
    have hcs := hSr.pr.blk.cell
    by_cases hlt : k < l.length
    · obtain ⟨ga', ca', gb', cb', p1', p2', hv1, hv2, hls1, hca, hcb⟩ := hSr.get hi
      injection hv1 with hv1 _ hv3
      injection hv1 with hv1
      injection hv1 with hv1
      subst hv1 hv3
      injection hv2 with hv2 _ hv3
      injection hv2 with hv2
      injection hv2 with hv2
      subst hv2 hv3
      have := hlsH.out
      rw [this] at hls1
      injection hls1 with hls1
      injection hls1 with e1 e2
      subst e1 e2
      clear this
      obtain ⟨ga', ca', gb', cb', q1, q2, hv1, hv2, hlu, hda, hdb⟩ := hSr.get hlt
      injection hv1 with hv1 _ hv3
      injection hv1 with hv1
      injection hv1 with hv1
      subst hv1 hv3
      injection hv2 with hv2 _ hv3
      injection hv2 with hv2
      injection hv2 with hv2
      subst hv2 hv3
      have hXr := hX.at hSr.below
      have hc3 := hXr.b1.cell
      have hc4 := hXr.b2.cell
      obtain ⟨hp1, hp2⟩ := hNH.out.reach (hEE.out.reach _ (List.mem_of_getElem? hlsH.out))
      obtain ⟨hq1, hq2⟩ := hNH.out.reach (hEE.out.reach _ (List.mem_of_getElem? hlu))
      dsimp only at hp1 hp2 hq1 hq2
      have c := fun {a : Addr} {v : Value} (h : w2.cell? a = some v) => (hSr.below.cell (cell_lt' h)).trans h
      have m1 := c (ht1H.out x hx).1
      have m2 := c ((ht1H.out x hx).2 p1 hp1).1
      have m3 := c (((ht1H.out x hx).2 p1 hp1).2 q1 hq1)
      have m4 := c (ht2H.out x hx).1
      have m5 := c ((ht2H.out x hx).2 p2 hp2).1
      have m6 := c (((ht2H.out x hx).2 p2 hp2).2 q2 hq2)
      have hc14 := hT'.b.cell
      have htc := hT'.t.topc x hx
      have hmc := (hT'.t.mid x hx).2 i hi
      have hSS := hide hSr.drew
      have hTd := hide hT'.drew
      have hm := hide (hEE.out.cl x i k (p1, p2) (q1, q2) hx hi hlt hlsH.out hlu)
      have hv := hide (tabBr_eq (br := jBr br1 br2) (x := x) hlsH.out hlu)
      have hT5 := hT'.drew
      have hR5 := hT5.t.row x hx i hi
      have hcr : wr.drew.cell? ⟨gj x i, k, none⟩ = some (encN (br' x i k)) := by rw [hR5.cell, rangeC_get _ hlt]
      have hcr' : wr.cell? ⟨gj x i, k, none⟩ = some (.int .i64 (br' x i k : Int)) := hcr
      have hfr : wr.frozen? ⟨gj x i, k, none⟩ = false := hR5.frozen k
      have hlr : gj x i < wr.heap.size := hR5.lt
      have hT6 := hide (hT5.setBr hx hi k (numL l (jBr br1 br2 x (p1, p2) (q1, q2))))
      clear hlu hXr c hT5 hR5 hcr hT'
      go_wp2_with fail
      refine Reg.region_cut [0, 1, 0, 7, 15, 0, 63, 127, 0, 0, 512, 0, 3584, 7680, 0, 16384, 0, 114688, 245760, 523776, 1048064, 0, 2097152, 0, 14680064, 31457280, 67108352, 134217216, 0, 268435456, 0, 1879048192, 4026531840, 0, 8589934592, 0, 60129542144, 128849018880, 274609471488, 549487378432, 0, 1099511627776, 0, 7696581394432, 16492674416640, 35184103653376, 70368475742208, 140737488354816, 281474976710655, 562949953421311] (List.range 50) (by kernel_rfl) (by repeat (first | exact hN | refine Reg.NoQ.then ?_ | refine Reg.NoQ.inBlock ?_)) ?_
      refine Reg.rest_walkE (T := List.range 50) (List.range 47) [47, 48, 49] rfl rfl (by kernel_rfl) ?_
      intro Qf hQf
      go_wp2_with fail
      try (rw [List.filterMap_nil]; go_wp2_with fail)
      refine Reg.rest_act' 47 _ [1, 4, 7] rfl (by kernel_rfl) ?_
      intro Qf hQf
      simp only [List.getElem_toArray, List.getElem_cons_succ, List.getElem_cons_zero]
      go_wp2_with (go_at_call 94; refine (hSS.out.old (x := br1 x p1 q1) (y := br2 x p2 q2) (by omega) hm.out).mono ?_; rintro e w5 ⟨rfl, rfl⟩)
      refine ⟨Reg.same_below (Below.refl _ _) [1, 4, 7] rfl, ?_⟩
      refine Reg.rest_walkE [48, 49] _ rfl rfl (by kernel_rfl) ?_
      intro Qf hQf
      go_wp2_with fail
      refine hQf _ _ (Reg.rest_end ?_)
      go_wp2_with fail
      refine ⟨⟨k + 1, _, by go_num, by omega, hT6.out, fun x' i' k' h1 h2 h3 h => ?_⟩, by simp [intOf]; omega⟩
      unfold up3
      split
      · rename_i e
        obtain ⟨rfl, rfl, rfl⟩ := e
        exact hv.out.symm
      · rename_i e
        exact hO'.out x' i' k' h1 h2 h3 (by omega)
    · obtain rfl : k = l.length := by omega
      have hTH := hide hT'
      clear hT' hSr
      go_wp2_with fail
      exact hQ _ _ _ _ _ _ _ _ _ _ _ _ _ _ _ _ _ _ _ _ _ _ _ _ _ _ _ _ _ _ _ _ _ _ _ _ _ _ _ _ _ _ _ _ _ _ _ _ _ _ _ _ _ _ _ _ _ wr br' hTH.out (fun x' i' k' h1 h2 h3 h => hO'.out x' i' k' h1 h2 h3 (by omega))
end Go.Proofs.Ytnimlcbgeiajiaa

namespace Go.Proofs.Ytnimlcbgeiajiaa
open Go.RowKit

set_option maxHeartbeats 8000000 in
set_option maxRecDepth 100000 in
theorem joi_fi {w2 wB w : World} {g3 g4 gp g14 gl ga gv cv L n1 n2 x : Nat} {gi ci : Nat → Nat} {gj : Nat → Nat → Nat} {vl1 vb1 va1 vl2 vb2 va2 va vb : Value} {lf1 lf2 : Nat → Nat} {br1 br2 : Nat → Nat → Nat → Nat} {ac1 ac2 : Nat → Bool} (hX : JoiX w2 g3 g4 L n1 n2 vl1 vb1 va1 vl2 vb2 va2 lf1 lf2 br1 br2 ac1 ac2) (hNN : JoiN L n1 n2 lf1 lf2 br1 br2)
    {l : List (Nat × Nat)} (hS : JoiS w2 wB gp va vb l) (hE : Expl L (jLeaf lf1 lf2) (jBr br1 br2) l l.length) (hl : l.length ≤ 20000) (hx : x < L)
    {lf : Nat → Nat} {br : Nat → Nat → Nat → Nat} {ac : Nat → Bool} (hT : SubT wB w L l.length g14 gl ga gv cv gi ci gj lf br ac) (hO : ∀ x' i' k', x' < L → i' < l.length → k' < l.length → x' < x → br x' i' k' = tabBr (jBr br1 br2) l x' i' k')
    {u0 u1 u2 u5 u6 u8 u9 u10 u11 u12 u13 u17 u18 u19 u20 u21 u22 u23 u24 u25 u26 u27 u28 u29 u30 u31 u32 u33 u34 u35 u36 u37 u38 u39 u40 u41 u42 u43 u44 u45 u46 u47 u48 u49 u50 u51 u52 u53 u54 u55 u56 u57 u58 u59 u60 u61 u62 u63 u64 u65 u66 u67 u68 u69 u70 u71 u72 u73 u74 u75 u76 u77 u78 u79 u80 u81 u82 u83 u84 u85 u86 u87 u88 u89 u90 u91 u92 u93 u94 u95 u96 u97 u98 u99 u100 u101 u102 u103 u104 u105 u106 u107 u108 u109 u110 u111 u112 u113 u114 u115 u116 u117 u118 u119 u120 u121 u122 u123 u124 u125 u126 u127 u128 u129 u130 u131 u132 u133 u134 u135 u136 u137 u138 u139 u140 u141 u142 u143 u144 u145 u146 u147 u148 u149 u150 u151 u152 u153 u154 u155 u156 u157 u158 u159 u160 u161 u162 u163 u164 u165 u166 u167 u168 u169 u170 u171 u172 u173 u174 u175 u176 u177 u178 u179 u180 u181 u182 u183 u184 u185 u186 u187 u188 u189 u190 u191 u192 u193 u194 u195 u196 u197 u198 u199 u200 u201 u202 u203 u204 u205 u206 u207 u208 u209 u210 u211 u212 u213 u214 u215 u216 u217 u218 u219 u220 u221 u222 u223 u224 u225 u226 u227 u228 u229 : Value}
    {Q : Exit → Act → World → Prop} (hN : Reg.NoQ Q)
    (hQ : ∀ (x16 x17 x135 x136 x137 x138 x139 x140 x141 x142 x143 x144 x145 x146 x147 x148 x149 x150 x151 x152 x153 x154 x155 x156 x157 x158 x159 x160 x161 x162 x163 x164 x165 x166 x167 x168 x169 x170 x171 x172 x173 x174 x175 x176 x177 x178 x179 x180 x181 x182 x183 x184 x185 x186 x187 x188 x189 x190 x191 x192 x193 x194 x195 x196 x197 : Value) (w' : World) (br' : Nat → Nat → Nat → Nat), SubT wB w' L l.length g14 gl ga gv cv gi ci gj lf br' ac → (∀ x' i' k', x' < L → i' < l.length → k' < l.length → x' < x + 1 → br' x' i' k' = tabBr (jBr br1 br2) l x' i' k') →
      Q (.exit 12) ⟨List.toArray (u0 :: u1 :: u2 :: (.pointer (some ⟨g3, 0, none⟩)) :: (.pointer (some ⟨g4, 0, none⟩)) :: u5 :: u6 :: (.pointer (some ⟨gp, 0, none⟩)) :: u8 :: u9 :: u10 :: u11 :: u12 :: u13 :: (.pointer (some ⟨g14, 0, none⟩)) :: (.int .i64 x) :: x16 :: x17 :: u18 :: u19 :: u20 :: 
      u21 :: u22 :: u23 :: u24 :: u25 :: u26 :: u27 :: u28 :: u29 :: u30 :: u31 :: u32 :: u33 :: u34 :: u35 :: u36 :: u37 :: u38 :: u39 :: u40 :: u41 :: u42 :: u43 :: u44 :: u45 :: u46 :: u47 :: u48 :: u49 :: u50 :: u51 :: u52 :: u53 :: u54 :: u55 :: u56 :: u57 :: 
      u58 :: u59 :: u60 :: u61 :: u62 :: u63 :: u64 :: u65 :: u66 :: u67 :: u68 :: u69 :: u70 :: u71 :: u72 :: u73 :: u74 :: u75 :: u76 :: u77 :: u78 :: u79 :: u80 :: u81 :: u82 :: u83 :: u84 :: u85 :: u86 :: u87 :: u88 :: u89 :: u90 :: u91 :: u92 :: u93 :: u94 :: 
      u95 :: u96 :: u97 :: u98 :: u99 :: u100 :: u101 :: u102 :: u103 :: u104 :: u105 :: u106 :: u107 :: u108 :: u109 :: u110 :: u111 :: u112 :: u113 :: u114 :: u115 :: u116 :: u117 :: u118 :: u119 :: u120 :: u121 :: u122 :: u123 :: u124 :: u125 :: u126 :: u127 :: 
      u128 :: u129 :: u130 :: u131 :: u132 :: u133 :: u134 :: x135 :: x136 :: x137 :: x138 :: x139 :: x140 :: x141 :: x142 :: x143 :: x144 :: x145 :: x146 :: x147 :: x148 :: x149 :: x150 :: x151 :: x152 :: x153 :: x154 :: x155 :: x156 :: x157 :: x158 :: x159 :: x160 :: 
      x161 :: x162 :: x163 :: x164 :: x165 :: x166 :: x167 :: x168 :: x169 :: x170 :: x171 :: x172 :: x173 :: x174 :: x175 :: x176 :: x177 :: x178 :: x179 :: x180 :: x181 :: x182 :: x183 :: x184 :: x185 :: x186 :: x187 :: x188 :: x189 :: x190 :: x191 :: x192 :: x193 :: 
      x194 :: x195 :: x196 :: x197 :: u198 :: u199 :: u200 :: u201 :: u202 :: u203 :: u204 :: u205 :: u206 :: u207 :: u208 :: u209 :: u210 :: u211 :: u212 :: u213 :: u214 :: u215 :: u216 :: u217 :: u218 :: u219 :: u220 :: u221 :: u222 :: u223 :: u224 :: u225 :: u226 :: 
      u227 :: u228 :: u229 :: []), []⟩ w') :
    (Code.loop (loopBody Try.f71 6)).wp Try.prog Q ⟨List.toArray (u0 :: u1 :: u2 :: (.pointer (some ⟨g3, 0, none⟩)) :: (.pointer (some ⟨g4, 0, none⟩)) :: u5 :: u6 :: (.pointer (some ⟨gp, 0, none⟩)) :: u8 :: u9 :: u10 :: u11 :: u12 :: u13 :: (.pointer (some ⟨g14, 0, none⟩)) :: (.int .i64 x) :: (.int .i64 0) :: u17 :: u18 :: 
      u19 :: u20 :: u21 :: u22 :: u23 :: u24 :: u25 :: u26 :: u27 :: u28 :: u29 :: u30 :: u31 :: u32 :: u33 :: u34 :: u35 :: u36 :: u37 :: u38 :: u39 :: u40 :: u41 :: u42 :: u43 :: u44 :: u45 :: u46 :: u47 :: u48 :: u49 :: u50 :: u51 :: u52 :: u53 :: u54 :: u55 :: 
      u56 :: u57 :: u58 :: u59 :: u60 :: u61 :: u62 :: u63 :: u64 :: u65 :: u66 :: u67 :: u68 :: u69 :: u70 :: u71 :: u72 :: u73 :: u74 :: u75 :: u76 :: u77 :: u78 :: u79 :: u80 :: u81 :: u82 :: u83 :: u84 :: u85 :: u86 :: u87 :: u88 :: u89 :: u90 :: u91 :: u92 :: 
      u93 :: u94 :: u95 :: u96 :: u97 :: u98 :: u99 :: u100 :: u101 :: u102 :: u103 :: u104 :: u105 :: u106 :: u107 :: u108 :: u109 :: u110 :: u111 :: u112 :: u113 :: u114 :: u115 :: u116 :: u117 :: u118 :: u119 :: u120 :: u121 :: u122 :: u123 :: u124 :: u125 :: 
      u126 :: u127 :: u128 :: u129 :: u130 :: u131 :: u132 :: u133 :: u134 :: u135 :: u136 :: u137 :: u138 :: u139 :: u140 :: u141 :: u142 :: u143 :: u144 :: u145 :: u146 :: u147 :: u148 :: u149 :: u150 :: u151 :: u152 :: u153 :: u154 :: u155 :: u156 :: u157 :: u158 :: 
      u159 :: u160 :: u161 :: u162 :: u163 :: u164 :: u165 :: u166 :: u167 :: u168 :: u169 :: u170 :: u171 :: u172 :: u173 :: u174 :: u175 :: u176 :: u177 :: u178 :: u179 :: u180 :: u181 :: u182 :: u183 :: u184 :: u185 :: u186 :: u187 :: u188 :: u189 :: u190 :: u191 :: 
      u192 :: u193 :: u194 :: u195 :: u196 :: u197 :: u198 :: u199 :: u200 :: u201 :: u202 :: u203 :: u204 :: u205 :: u206 :: u207 :: u208 :: u209 :: u210 :: u211 :: u212 :: u213 :: u214 :: u215 :: u216 :: u217 :: u218 :: u219 :: u220 :: u221 :: u222 :: u223 :: u224 :: 
      u225 :: u226 :: u227 :: u228 :: u229 :: []), []⟩ w := by
  conv => arg 2; arg 1; whnf
  have hOO := hide hO
  have hEE := hide hE
  have hNH := hide hNN
  clear hO hE hNN
  obtain ⟨Av, cvv, rfl⟩ := slice_of_own hS.pr.owa
  go_loopw [16] (fun ii wr => ∃ (i : Nat) (br' : Nat → Nat → Nat → Nat), ii = .int .i64 (i : Int) ∧ i ≤ l.length ∧ SubT wB wr L l.length g14 gl ga gv cv gi ci gj lf br' ac ∧
    Hid (∀ x' i' k', x' < L → i' < l.length → k' < l.length → (x' < x ∨ x' = x ∧ i' < i) → br' x' i' k' = tabBr (jBr br1 br2) l x' i' k')) (fun ii _ => l.length - (intOf ii).toNat)
  case atStart => exact ⟨0, br, rfl, Nat.zero_le _, hT, fun x' i' k' h1 h2 h3 h => hOO.out x' i' k' h1 h2 h3 (by omega)⟩
  case round =>
    obtain ⟨i, br', rfl, hi, hT', hO'⟩ := hrel
    have hcs := (hS.call hT'.below).pr.blk.cell
    have hTT := hide hT'
    clear hT'
    by_cases hlt : i < l.length
    · go_wp2_with fail
      refine joi_fk hX hNH.out hS hEE.out hl hx hlt hTT.out hO'.out ?_ ?_
      · repeat (first | exact hN | refine Reg.NoQ.then ?_ | refine Reg.NoQ.inBlock ?_)
      · iterate 57 (intro _)
        intro w3 br3 hT3 hO3
        have hTT3 := hide hT3
        have hOO3 := hide hO3
        clear hT3 hO3 hcs
        go_wp2_with fail
        exact ⟨⟨i + 1, br3, by go_num, by omega, hTT3.out, hOO3.out⟩, by simp [intOf]; omega⟩
    · obtain rfl : i = l.length := by omega
      go_wp2_with fail
      exact hQ _ _ _ _ _ _ _ _ _ _ _ _ _ _ _ _ _ _ _ _ _ _ _ _ _ _ _ _ _ _ _ _ _ _ _ _ _ _ _ _ _ _ _ _ _ _ _ _ _ _ _ _ _ _ _ _ _ _ _ _ _ _ _ _ _ wr br' hTT.out (fun x' i' k' h1 h2 h3 h => hO'.out x' i' k' h1 h2 h3 (by omega))

set_option maxHeartbeats 8000000 in
set_option maxRecDepth 100000 in
theorem joi_fx {w2 wB w : World} {g3 g4 gp g14 gl ga gv cv L n1 n2 : Nat} {gi ci : Nat → Nat} {gj : Nat → Nat → Nat} {vl1 vb1 va1 vl2 vb2 va2 va vb : Value} {lf1 lf2 : Nat → Nat} {br1 br2 : Nat → Nat → Nat → Nat} {ac1 ac2 : Nat → Bool} (hX : JoiX w2 g3 g4 L n1 n2 vl1 vb1 va1 vl2 vb2 va2 lf1 lf2 br1 br2 ac1 ac2) (hNN : JoiN L n1 n2 lf1 lf2 br1 br2) (hL : L ≤ 8)
    {l : List (Nat × Nat)} (hS : JoiS w2 wB gp va vb l) (hE : Expl L (jLeaf lf1 lf2) (jBr br1 br2) l l.length) (hl : l.length ≤ 20000)
    {lf : Nat → Nat} {br : Nat → Nat → Nat → Nat} {ac : Nat → Bool} (hT : SubT wB w L l.length g14 gl ga gv cv gi ci gj lf br ac)
    {u0 u1 u2 u5 u6 u8 u9 u10 u11 u12 u13 u16 u17 u18 u19 u20 u21 u22 u23 u24 u25 u26 u27 u28 u29 u30 u31 u32 u33 u34 u35 u36 u37 u38 u39 u40 u41 u42 u43 u44 u45 u46 u47 u48 u49 u50 u51 u52 u53 u54 u55 u56 u57 u58 u59 u60 u61 u62 u63 u64 u65 u66 u67 u68 u69 u70 u71 u72 u73 u74 u75 u76 u77 u78 u79 u80 u81 u82 u83 u84 u85 u86 u87 u88 u89 u90 u91 u92 u93 u94 u95 u96 u97 u98 u99 u100 u101 u102 u103 u104 u105 u106 u107 u108 u109 u110 u111 u112 u113 u114 u115 u116 u117 u118 u119 u120 u121 u122 u123 u124 u125 u126 u127 u128 u129 u130 u131 u132 u133 u134 u135 u136 u137 u138 u139 u140 u141 u142 u143 u144 u145 u146 u147 u148 u149 u150 u151 u152 u153 u154 u155 u156 u157 u158 u159 u160 u161 u162 u163 u164 u165 u166 u167 u168 u169 u170 u171 u172 u173 u174 u175 u176 u177 u178 u179 u180 u181 u182 u183 u184 u185 u186 u187 u188 u189 u190 u191 u192 u193 u194 u195 u196 u197 u198 u199 u200 u201 u202 u203 u204 u205 u206 u207 u208 u209 u210 u211 u212 u213 u214 u215 u216 u217 u218 u219 u220 u221 u222 u223 u224 u225 u226 u227 u228 u229 : Value}
    {Q : Exit → Act → World → Prop} (hN : Reg.NoQ Q)
    (hQ : ∀ (x15 x16 x17 x114 x115 x116 x117 x118 x119 x120 x121 x122 x123 x124 x125 x126 x127 x128 x129 x130 x131 x132 x133 x134 x135 x136 x137 x138 x139 x140 x141 x142 x143 x144 x145 x146 x147 x148 x149 x150 x151 x152 x153 x154 x155 x156 x157 x158 x159 x160 x161 x162 x163 x164 x165 x166 x167 x168 x169 x170 x171 x172 x173 x174 x175 x176 x177 x178 x179 x180 x181 x182 x183 x184 x185 x186 x187 x188 x189 x190 x191 x192 x193 x194 x195 x196 x197 : Value) (w' : World) (lf' : Nat → Nat) (br' : Nat → Nat → Nat → Nat), SubT wB w' L l.length g14 gl ga gv cv gi ci gj lf' br' ac → (∀ x, x < L → lf' x = tabLf (jLeaf lf1 lf2) l x) → (∀ x' i' k', x' < L → i' < l.length → k' < l.length → br' x' i' k' = tabBr (jBr br1 br2) l x' i' k') →
      Q (.exit 10) ⟨List.toArray (u0 :: u1 :: u2 :: (.pointer (some ⟨g3, 0, none⟩)) :: (.pointer (some ⟨g4, 0, none⟩)) :: u5 :: u6 :: (.pointer (some ⟨gp, 0, none⟩)) :: u8 :: u9 :: u10 :: u11 :: u12 :: u13 :: (.pointer (some ⟨g14, 0, none⟩)) :: x15 :: x16 :: x17 :: u18 :: u19 :: u20 :: u21 :: 
      u22 :: u23 :: u24 :: u25 :: u26 :: u27 :: u28 :: u29 :: u30 :: u31 :: u32 :: u33 :: u34 :: u35 :: u36 :: u37 :: u38 :: u39 :: u40 :: u41 :: u42 :: u43 :: u44 :: u45 :: u46 :: u47 :: u48 :: u49 :: u50 :: u51 :: u52 :: u53 :: u54 :: u55 :: u56 :: u57 :: u58 :: 
      u59 :: u60 :: u61 :: u62 :: u63 :: u64 :: u65 :: u66 :: u67 :: u68 :: u69 :: u70 :: u71 :: u72 :: u73 :: u74 :: u75 :: u76 :: u77 :: u78 :: u79 :: u80 :: u81 :: u82 :: u83 :: u84 :: u85 :: u86 :: u87 :: u88 :: u89 :: u90 :: u91 :: u92 :: u93 :: u94 :: u95 :: 
      u96 :: u97 :: u98 :: u99 :: u100 :: u101 :: u102 :: u103 :: u104 :: u105 :: u106 :: u107 :: u108 :: u109 :: u110 :: u111 :: u112 :: u113 :: x114 :: x115 :: x116 :: x117 :: x118 :: x119 :: x120 :: x121 :: x122 :: x123 :: x124 :: x125 :: x126 :: x127 :: x128 :: 
      x129 :: x130 :: x131 :: x132 :: x133 :: x134 :: x135 :: x136 :: x137 :: x138 :: x139 :: x140 :: x141 :: x142 :: x143 :: x144 :: x145 :: x146 :: x147 :: x148 :: x149 :: x150 :: x151 :: x152 :: x153 :: x154 :: x155 :: x156 :: x157 :: x158 :: x159 :: x160 :: x161 :: 
      x162 :: x163 :: x164 :: x165 :: x166 :: x167 :: x168 :: x169 :: x170 :: x171 :: x172 :: x173 :: x174 :: x175 :: x176 :: x177 :: x178 :: x179 :: x180 :: x181 :: x182 :: x183 :: x184 :: x185 :: x186 :: x187 :: x188 :: x189 :: x190 :: x191 :: x192 :: x193 :: x194 :: 
      x195 :: x196 :: x197 :: u198 :: u199 :: u200 :: u201 :: u202 :: u203 :: u204 :: u205 :: u206 :: u207 :: u208 :: u209 :: u210 :: u211 :: u212 :: u213 :: u214 :: u215 :: u216 :: u217 :: u218 :: u219 :: u220 :: u221 :: u222 :: u223 :: u224 :: u225 :: u226 :: u227 :: 
      u228 :: u229 :: []), []⟩ w') :
    (Code.loop (loopBody Try.f71 5)).wp Try.prog Q ⟨List.toArray (u0 :: u1 :: u2 :: (.pointer (some ⟨g3, 0, none⟩)) :: (.pointer (some ⟨g4, 0, none⟩)) :: u5 :: u6 :: (.pointer (some ⟨gp, 0, none⟩)) :: u8 :: u9 :: u10 :: u11 :: u12 :: u13 :: (.pointer (some ⟨g14, 0, none⟩)) :: (.int .i64 0) :: u16 :: u17 :: u18 :: u19 :: u20 :: 
      u21 :: u22 :: u23 :: u24 :: u25 :: u26 :: u27 :: u28 :: u29 :: u30 :: u31 :: u32 :: u33 :: u34 :: u35 :: u36 :: u37 :: u38 :: u39 :: u40 :: u41 :: u42 :: u43 :: u44 :: u45 :: u46 :: u47 :: u48 :: u49 :: u50 :: u51 :: u52 :: u53 :: u54 :: u55 :: u56 :: u57 :: 
      u58 :: u59 :: u60 :: u61 :: u62 :: u63 :: u64 :: u65 :: u66 :: u67 :: u68 :: u69 :: u70 :: u71 :: u72 :: u73 :: u74 :: u75 :: u76 :: u77 :: u78 :: u79 :: u80 :: u81 :: u82 :: u83 :: u84 :: u85 :: u86 :: u87 :: u88 :: u89 :: u90 :: u91 :: u92 :: u93 :: u94 :: 
      u95 :: u96 :: u97 :: u98 :: u99 :: u100 :: u101 :: u102 :: u103 :: u104 :: u105 :: u106 :: u107 :: u108 :: u109 :: u110 :: u111 :: u112 :: u113 :: u114 :: u115 :: u116 :: u117 :: u118 :: u119 :: u120 :: u121 :: u122 :: u123 :: u124 :: u125 :: u126 :: u127 :: 
      u128 :: u129 :: u130 :: u131 :: u132 :: u133 :: u134 :: u135 :: u136 :: u137 :: u138 :: u139 :: u140 :: u141 :: u142 :: u143 :: u144 :: u145 :: u146 :: u147 :: u148 :: u149 :: u150 :: u151 :: u152 :: u153 :: u154 :: u155 :: u156 :: u157 :: u158 :: u159 :: u160 :: 
      u161 :: u162 :: u163 :: u164 :: u165 :: u166 :: u167 :: u168 :: u169 :: u170 :: u171 :: u172 :: u173 :: u174 :: u175 :: u176 :: u177 :: u178 :: u179 :: u180 :: u181 :: u182 :: u183 :: u184 :: u185 :: u186 :: u187 :: u188 :: u189 :: u190 :: u191 :: u192 :: u193 :: 
      u194 :: u195 :: u196 :: u197 :: u198 :: u199 :: u200 :: u201 :: u202 :: u203 :: u204 :: u205 :: u206 :: u207 :: u208 :: u209 :: u210 :: u211 :: u212 :: u213 :: u214 :: u215 :: u216 :: u217 :: u218 :: u219 :: u220 :: u221 :: u222 :: u223 :: u224 :: u225 :: u226 :: 
      u227 :: u228 :: u229 :: []), []⟩ w := by
  conv => arg 2; arg 1; whnf
  have hEE := hide hE
  have hNH := hide hNN
  clear hE hNN
  obtain ⟨gl1, cl1, rfl, hl1⟩ := hX.t1.leaf
  obtain ⟨gl2, cl2, rfl, hl2⟩ := hX.t2.leaf
  have hl1H := hide hl1
  have hl2H := hide hl2
  clear hl1 hl2
  go_loopw [15] (fun xx wr => ∃ (x : Nat) (lf' : Nat → Nat) (br' : Nat → Nat → Nat → Nat), xx = .int .i64 (x : Int) ∧ x ≤ L ∧ SubT wB wr L l.length g14 gl ga gv cv gi ci gj lf' br' ac ∧
    Hid (∀ x', x' < x → lf' x' = tabLf (jLeaf lf1 lf2) l x') ∧ Hid (∀ x' i' k', x' < L → i' < l.length → k' < l.length → x' < x → br' x' i' k' = tabBr (jBr br1 br2) l x' i' k')) (fun xx _ => L - (intOf xx).toNat)
  case atStart => exact ⟨0, lf, br, rfl, Nat.zero_le _, hT, fun x' h => absurd h (by omega), fun x' i' k' h1 h2 h3 h => absurd h (by omega)⟩
  case round =>
    obtain ⟨x, lf', br', rfl, hx, hT', hF, hO'⟩ := hrel
    have hSr := hS.call hT'.below
    have hXr := hX.at hSr.below
    have hc3 := hXr.b1.cell
    by_cases hlt : x < L
    · have hc4 := hXr.b2.cell
      have m1 := (hSr.below.cell (cell_lt' (hl1H.out x hlt))).trans (hl1H.out x hlt)
      have m2 := (hSr.below.cell (cell_lt' (hl2H.out x hlt))).trans (hl2H.out x hlt)
      have hc14 := hT'.b.cell
      have hSS := hide hSr.drew
      have hm := hide (hEE.out.leaves x hlt)
      have hT5 := hT'.drew
      have hcr : wr.drew.cell? ⟨gl, x, none⟩ = some (encN (lf' x)) := by rw [hT5.t.leaf.cell, rangeC_get _ hlt]
      have hcr' : wr.cell? ⟨gl, x, none⟩ = some (.int .i64 (lf' x : Int)) := hcr
      have hfr : wr.frozen? ⟨gl, x, none⟩ = false := hT5.t.leaf.frozen x
      have hlr : gl < wr.heap.size := hT5.t.leaf.lt
      have hT6 := hide (hT5.setLeaf x (numL l (jLeaf lf1 lf2 x)))
      clear hT5 hcr hT' hSr hXr
      go_wp2_with fail
      refine Reg.region_cut [0, 1, 0, 0, 8, 0, 56, 120, 0, 256, 0, 1792, 3840, 8184, 16383, 32767] [0, 1, 2, 3, 4, 5, 6, 7, 8, 9, 10, 11, 12, 13, 14, 15] (by kernel_rfl) (by repeat (first | exact hN | refine Reg.NoQ.then ?_ | refine Reg.NoQ.inBlock ?_)) ?_
      refine Reg.rest_walkE [0, 1, 2, 3, 4, 5, 6, 7, 8, 9, 10, 11, 12] _ rfl rfl (by kernel_rfl) ?_
      intro Qf hQf
      go_wp2_with fail
      try (rw [List.filterMap_nil]; go_wp2_with fail)
      refine Reg.rest_act' 13 _ [1] rfl (by kernel_rfl) ?_
      intro Qf hQf
      simp only [List.getElem_toArray, List.getElem_cons_succ, List.getElem_cons_zero]
      go_wp2_with (go_at_call 94; refine (hSS.out.old (x := lf1 x) (y := lf2 x) (by omega) hm.out).mono ?_; rintro e w5 ⟨rfl, rfl⟩)
      refine ⟨Reg.same_below (Below.refl _ _) [1] rfl, ?_⟩
      refine Reg.rest_walkE [14, 15] _ rfl rfl (by kernel_rfl) ?_
      intro Qf hQf
      go_wp2_with fail
      refine hQf _ _ (Reg.rest_end ?_)
      clear hQf hc3 hc4 m1 m2 hc14 hcr' hfr hlr
      go_wp2_with fail
      refine joi_fi hX hNH.out hS hEE.out hl hlt hT6.out hO'.out ?_ ?_
      · repeat (first | exact hN | refine Reg.NoQ.then ?_ | refine Reg.NoQ.inBlock ?_)
      · iterate 65 (intro _)
        intro w3 br3 hT3 hO3
        have hTT3 := hide hT3
        have hOO3 := hide hO3
        clear hT3 hO3
        go_wp2_with fail
        refine ⟨⟨x + 1, _, br3, by go_num, by omega, hTT3.out, fun x' h => ?_, hOO3.out⟩, by simp [intOf]; omega⟩
        unfold up1
        split
        · rename_i e; rw [e]; rfl
        · exact hF.out x' (by omega)
    · obtain rfl : x = L := by omega
      have hTH := hide hT'
      clear hT' hSr hXr
      go_wp2_with fail
      exact hQ _ _ _ _ _ _ _ _ _ _ _ _ _ _ _ _ _ _ _ _ _ _ _ _ _ _ _ _ _ _ _ _ _ _ _ _ _ _ _ _ _ _ _ _ _ _ _ _ _ _ _ _ _ _ _ _ _ _ _ _ _ _ _ _ _ _ _ _ _ _ _ _ _ _ _ _ _ _ _ _ _ _ _ _ _ _ _ wr lf' br' hTH.out hF.out (fun x' i' k' h1 h2 h3 => hO'.out x' i' k' h1 h2 h3 h1)

set_option maxHeartbeats 8000000 in
set_option maxRecDepth 100000 in
theorem joi_fa {w2 wB w : World} {g3 g4 gp g14 gl ga gv cv L n1 n2 way : Nat} {gi ci : Nat → Nat} {gj : Nat → Nat → Nat} {vl1 vb1 va1 vl2 vb2 va2 va vb : Value} {lf1 lf2 : Nat → Nat} {br1 br2 : Nat → Nat → Nat → Nat} {ac1 ac2 : Nat → Bool} (hX : JoiX w2 g3 g4 L n1 n2 vl1 vb1 va1 vl2 vb2 va2 lf1 lf2 br1 br2 ac1 ac2) (hNN : JoiN L n1 n2 lf1 lf2 br1 br2) (hway : way = 1 ∨ way = 2 ∨ way = 3)
    {l : List (Nat × Nat)} (hS : JoiS w2 wB gp va vb l) (hR : ∀ p ∈ l, Reach L (jLeaf lf1 lf2) (jBr br1 br2) p) (hl : l.length ≤ 20000)
    {lf : Nat → Nat} {br : Nat → Nat → Nat → Nat} {ac : Nat → Bool} (hT : SubT wB w L l.length g14 gl ga gv cv gi ci gj lf br ac)
    {u0 u1 u5 u6 u8 u9 u10 u11 u12 u13 u15 u16 u17 u19 u20 u21 u22 u23 u24 u25 u26 u27 u28 u29 u30 u31 u32 u33 u34 u35 u36 u37 u38 u39 u40 u41 u42 u43 u44 u45 u46 u47 u48 u49 u50 u51 u52 u53 u54 u55 u56 u57 u58 u59 u60 u61 u62 u63 u64 u65 u66 u67 u68 u69 u70 u71 u72 u73 u74 u75 u76 u77 u78 u79 u80 u81 u82 u83 u84 u85 u86 u87 u88 u89 u90 u91 u92 u93 u94 u95 u96 u97 u98 u99 u100 u101 u102 u103 u104 u105 u106 u107 u108 u109 u110 u111 u112 u113 u114 u115 u116 u117 u118 u119 u120 u121 u122 u123 u124 u125 u126 u127 u128 u129 u130 u131 u132 u133 u134 u135 u136 u137 u138 u139 u140 u141 u142 u143 u144 u145 u146 u147 u148 u149 u150 u151 u152 u153 u154 u155 u156 u157 u158 u159 u160 u161 u162 u163 u164 u165 u166 u167 u168 u169 u170 u171 u172 u173 u174 u175 u176 u177 u178 u179 u180 u181 u182 u183 u184 u185 u186 u187 u188 u189 u190 u191 u192 u193 u194 u195 u196 u197 u198 u199 u200 u201 u202 u203 u204 u205 u206 u207 u208 u209 u210 u211 u212 u213 u214 u215 u216 u217 u218 u219 u220 u221 u222 u223 u224 u225 u226 u227 u228 u229 : Value}
    {Q : Exit → Act → World → Prop} (hN : Reg.NoQ Q)
    (hQ : ∀ (x18 x198 x199 x200 x201 x202 x203 x204 x205 x206 x207 x208 x209 x210 x211 x212 x213 x214 x215 x216 x217 x218 x219 x220 x221 x222 x223 x224 x225 x226 x227 x228 : Value) (w' : World) (ac' : Nat → Bool), SubT wB w' L l.length g14 gl ga gv cv gi ci gj lf br ac' → (∀ (q : Nat) (p : Nat × Nat), l[q]? = some p → ac' q = wayJ way (ac1 p.1) (ac2 p.2)) →
      Q (.exit 16) ⟨List.toArray (u0 :: u1 :: (.int .i64 way) :: (.pointer (some ⟨g3, 0, none⟩)) :: (.pointer (some ⟨g4, 0, none⟩)) :: u5 :: u6 :: (.pointer (some ⟨gp, 0, none⟩)) :: u8 :: u9 :: u10 :: u11 :: u12 :: u13 :: (.pointer (some ⟨g14, 0, none⟩)) :: u15 :: u16 :: u17 :: x18 :: u19 :: 
      u20 :: u21 :: u22 :: u23 :: u24 :: u25 :: u26 :: u27 :: u28 :: u29 :: u30 :: u31 :: u32 :: u33 :: u34 :: u35 :: u36 :: u37 :: u38 :: u39 :: u40 :: u41 :: u42 :: u43 :: u44 :: u45 :: u46 :: u47 :: u48 :: u49 :: u50 :: u51 :: u52 :: u53 :: u54 :: u55 :: u56 :: 
      u57 :: u58 :: u59 :: u60 :: u61 :: u62 :: u63 :: u64 :: u65 :: u66 :: u67 :: u68 :: u69 :: u70 :: u71 :: u72 :: u73 :: u74 :: u75 :: u76 :: u77 :: u78 :: u79 :: u80 :: u81 :: u82 :: u83 :: u84 :: u85 :: u86 :: u87 :: u88 :: u89 :: u90 :: u91 :: u92 :: u93 :: 
      u94 :: u95 :: u96 :: u97 :: u98 :: u99 :: u100 :: u101 :: u102 :: u103 :: u104 :: u105 :: u106 :: u107 :: u108 :: u109 :: u110 :: u111 :: u112 :: u113 :: u114 :: u115 :: u116 :: u117 :: u118 :: u119 :: u120 :: u121 :: u122 :: u123 :: u124 :: u125 :: u126 :: 
      u127 :: u128 :: u129 :: u130 :: u131 :: u132 :: u133 :: u134 :: u135 :: u136 :: u137 :: u138 :: u139 :: u140 :: u141 :: u142 :: u143 :: u144 :: u145 :: u146 :: u147 :: u148 :: u149 :: u150 :: u151 :: u152 :: u153 :: u154 :: u155 :: u156 :: u157 :: u158 :: u159 :: 
      u160 :: u161 :: u162 :: u163 :: u164 :: u165 :: u166 :: u167 :: u168 :: u169 :: u170 :: u171 :: u172 :: u173 :: u174 :: u175 :: u176 :: u177 :: u178 :: u179 :: u180 :: u181 :: u182 :: u183 :: u184 :: u185 :: u186 :: u187 :: u188 :: u189 :: u190 :: u191 :: u192 :: 
      u193 :: u194 :: u195 :: u196 :: u197 :: x198 :: x199 :: x200 :: x201 :: x202 :: x203 :: x204 :: x205 :: x206 :: x207 :: x208 :: x209 :: x210 :: x211 :: x212 :: x213 :: x214 :: x215 :: x216 :: x217 :: x218 :: x219 :: x220 :: x221 :: x222 :: x223 :: x224 :: x225 :: 
      x226 :: x227 :: x228 :: u229 :: []), []⟩ w') :
    (Code.loop (loopBody Try.f71 8)).wp Try.prog Q ⟨List.toArray (u0 :: u1 :: (.int .i64 way) :: (.pointer (some ⟨g3, 0, none⟩)) :: (.pointer (some ⟨g4, 0, none⟩)) :: u5 :: u6 :: (.pointer (some ⟨gp, 0, none⟩)) :: u8 :: u9 :: u10 :: u11 :: u12 :: u13 :: (.pointer (some ⟨g14, 0, none⟩)) :: u15 :: u16 :: u17 :: (.int .i64 0) :: 
      u19 :: u20 :: u21 :: u22 :: u23 :: u24 :: u25 :: u26 :: u27 :: u28 :: u29 :: u30 :: u31 :: u32 :: u33 :: u34 :: u35 :: u36 :: u37 :: u38 :: u39 :: u40 :: u41 :: u42 :: u43 :: u44 :: u45 :: u46 :: u47 :: u48 :: u49 :: u50 :: u51 :: u52 :: u53 :: u54 :: u55 :: 
      u56 :: u57 :: u58 :: u59 :: u60 :: u61 :: u62 :: u63 :: u64 :: u65 :: u66 :: u67 :: u68 :: u69 :: u70 :: u71 :: u72 :: u73 :: u74 :: u75 :: u76 :: u77 :: u78 :: u79 :: u80 :: u81 :: u82 :: u83 :: u84 :: u85 :: u86 :: u87 :: u88 :: u89 :: u90 :: u91 :: u92 :: 
      u93 :: u94 :: u95 :: u96 :: u97 :: u98 :: u99 :: u100 :: u101 :: u102 :: u103 :: u104 :: u105 :: u106 :: u107 :: u108 :: u109 :: u110 :: u111 :: u112 :: u113 :: u114 :: u115 :: u116 :: u117 :: u118 :: u119 :: u120 :: u121 :: u122 :: u123 :: u124 :: u125 :: 
      u126 :: u127 :: u128 :: u129 :: u130 :: u131 :: u132 :: u133 :: u134 :: u135 :: u136 :: u137 :: u138 :: u139 :: u140 :: u141 :: u142 :: u143 :: u144 :: u145 :: u146 :: u147 :: u148 :: u149 :: u150 :: u151 :: u152 :: u153 :: u154 :: u155 :: u156 :: u157 :: u158 :: 
      u159 :: u160 :: u161 :: u162 :: u163 :: u164 :: u165 :: u166 :: u167 :: u168 :: u169 :: u170 :: u171 :: u172 :: u173 :: u174 :: u175 :: u176 :: u177 :: u178 :: u179 :: u180 :: u181 :: u182 :: u183 :: u184 :: u185 :: u186 :: u187 :: u188 :: u189 :: u190 :: u191 :: 
      u192 :: u193 :: u194 :: u195 :: u196 :: u197 :: u198 :: u199 :: u200 :: u201 :: u202 :: u203 :: u204 :: u205 :: u206 :: u207 :: u208 :: u209 :: u210 :: u211 :: u212 :: u213 :: u214 :: u215 :: u216 :: u217 :: u218 :: u219 :: u220 :: u221 :: u222 :: u223 :: u224 :: 
      u225 :: u226 :: u227 :: u228 :: u229 :: []), []⟩ w := by
  conv => arg 2; arg 1; whnf
  have hRH := hide hR
  have hNH := hide hNN
  clear hR hNN
  obtain ⟨ga1, ca1, rfl, ha1⟩ := hX.t1.acc
  obtain ⟨ga2, ca2, rfl, ha2⟩ := hX.t2.acc
  have ha1H := hide ha1
  have ha2H := hide ha2
  clear ha1 ha2
  obtain ⟨Av, cvv, rfl⟩ := slice_of_own hS.pr.owa
  go_loopw [18] (fun qq wr => ∃ (q : Nat) (ac' : Nat → Bool), qq = .int .i64 (q : Int) ∧ q ≤ l.length ∧ SubT wB wr L l.length g14 gl ga gv cv gi ci gj lf br ac' ∧
    Hid (∀ (q' : Nat) (p : Nat × Nat), q' < q → l[q']? = some p → ac' q' = wayJ way (ac1 p.1) (ac2 p.2))) (fun qq _ => l.length - (intOf qq).toNat)
  case atStart => exact ⟨0, ac, rfl, Nat.zero_le _, hT, fun q' s h => absurd h (by omega)⟩
  case round =>
    obtain ⟨q, ac', rfl, hq, hT', hF⟩ := hrel
    have hSr := hS.call hT'.below
    have hcs := hSr.pr.blk.cell
    by_cases hlt : q < l.length
    · obtain ⟨ga', ca', gb', cb', p1, p2, hv1, hv2, hls, hca, hcb⟩ := hSr.get hlt
      injection hv1 with hv1 _ hv3
      subst hv1 hv3
      subst hv2
      have hXr := hX.at hSr.below
      have hc3 := hXr.b1.cell
      have hc4 := hXr.b2.cell
      obtain ⟨hp1, hp2⟩ := hNH.out.reach (hRH.out _ (List.mem_of_getElem? hls))
      dsimp only at hp1 hp2
      have m1 := (hSr.below.cell (cell_lt' (ha1H.out p1 hp1))).trans (ha1H.out p1 hp1)
      have m2 := (hSr.below.cell (cell_lt' (ha2H.out p2 hp2))).trans (ha2H.out p2 hp2)
      have hc14 := hT'.b.cell
      have hT5 := hT'.drew
      have hcr' : wr.cell? ⟨ga, q, none⟩ = some (.bool (ac' q)) := by rw [hT'.t.acc.cell, rangeC_get _ hlt]
      have hfr : wr.frozen? ⟨ga, q, none⟩ = false := hT'.t.acc.frozen q
      have hlr : ga < wr.heap.size := hT'.t.acc.lt
      have hT6 := hide (hT5.setAcc q (wayJ way (ac1 p1) (ac2 p2)))
      have hlsH := hide hls
      clear hls hT' hT5 hSr hXr
      go_wp2_with fail
      refine Reg.region_cut [0, 1, 0, 0, 0, 16, 0, 64, 0, 448, 960, 2032, 4080, 0, 8192, 0, 32768, 0, 229376, 491520, 1040384, 2088960, 4194296, 8388607, 16777215] [0, 1, 2, 3, 4, 5, 6, 7, 8, 9, 10, 11, 12, 13, 14, 15, 16, 17, 18, 19, 20, 21, 22, 23, 24] (by kernel_rfl) (by repeat (first | exact hN | refine Reg.NoQ.then ?_ | refine Reg.NoQ.inBlock ?_)) ?_
      refine Reg.rest_walkE [0, 1, 2, 3, 4, 5, 6, 7, 8, 9, 10, 11, 12, 13, 14, 15, 16, 17, 18, 19, 20, 21] _ rfl rfl (by kernel_rfl) ?_
      intro Qf hQf
      go_wp2_with fail
      try (rw [List.filterMap_nil]; go_wp2_with fail)
      refine Reg.rest_act' 22 _ [1] rfl (by kernel_rfl) ?_
      intro Qf hQf
      simp only [List.getElem_toArray, List.getElem_cons_succ, List.getElem_cons_zero]
      go_wp2_with (go_at_call 95; refine (holds_any hway).mono ?_; rintro e w5 ⟨rfl, rfl⟩)
      refine ⟨Reg.same_below (Below.refl _ _) [1] rfl, ?_⟩
      refine Reg.rest_walkE [23, 24] _ rfl rfl (by kernel_rfl) ?_
      intro Qf hQf
      go_wp2_with fail
      refine hQf _ _ (Reg.rest_end ?_)
      go_wp2_with fail
      refine ⟨⟨q + 1, _, by go_num, by omega, hT6.out, fun q' s' h hs' => ?_⟩, by simp [intOf]; omega⟩
      unfold up1
      split
      · rename_i e
        subst e
        rw [hlsH.out] at hs'
        injection hs' with hs'
        rw [← hs']
      · exact hF.out q' s' (by omega) hs'
    · obtain rfl : q = l.length := by omega
      have hTH := hide hT'
      clear hT' hSr
      go_wp2_with fail
      exact hQ _ _ _ _ _ _ _ _ _ _ _ _ _ _ _ _ _ _ _ _ _ _ _ _ _ _ _ _ _ _ _ _ wr ac' hTH.out (fun q s hs => hF.out q s (lt_of_get hs) hs)
end Go.Proofs.Ytnimlcbgeiajiaa

namespace Go.Proofs.Ytnimlcbgeiajiaa
open Go.RowKit

theorem join_run (lf1 lf2 : Nat → Nat) (br1 br2 : Nat → Nat → Nat → Nat) : ∀ tr : Tr, runT (jLeaf lf1 lf2) (jBr br1 br2) tr = (runT lf1 br1 tr, runT lf2 br2 tr)
  | .leaf _ => rfl
  | .node x s t => by
    show jBr br1 br2 x _ _ = _
    rw [join_run lf1 lf2 br1 br2 s, join_run lf1 lf2 br1 br2 t]
    rfl
theorem isM_N {L n1 n2 : Nat} {lf1 lf2 : Nat → Nat} {br1 br2 : Nat → Nat → Nat → Nat} (h1 : IsM L n1 lf1 br1) (h2 : IsM L n2 lf2 br2) : JoiN L n1 n2 lf1 lf2 br1 br2 := ⟨h1.leaf_lt, h2.leaf_lt, h1.br_lt, h2.br_lt⟩
def jAcc (way : Nat) (ac1 ac2 : Nat → Bool) (p : Nat × Nat) : Bool := wayJ way (ac1 p.1) (ac2 p.2)

set_option maxHeartbeats 8000000 in
set_option maxRecDepth 100000 in
theorem join_any {w : World} {L n1 n2 way : Nat} {vl1 vb1 va1 vl2 vb2 va2 : Value} {lf1 lf2 : Nat → Nat} {br1 br2 : Nat → Nat → Nat → Nat} {ac1 ac2 : Nat → Bool} (t1 : TblF w L n1 vl1 vb1 va1 lf1 br1 ac1) (t2 : TblF w L n2 vl2 vb2 va2 lf2 br2 ac2)
    (hNN : JoiN L n1 n2 lf1 lf2 br1 br2) (hn12 : n1 * n2 ≤ 20000) (hL : L ≤ 8) (hL1 : 1 ≤ L) (hway : way = 1 ∨ way = 2 ∨ way = 3) :
    Calls Try.prog 71 #[.agg #[.int .i64 (L : Int), vl1, vb1, va1], .agg #[.int .i64 (L : Int), vl2, vb2, va2], .int .i64 (way : Int)] w (Ret fun r w' => Below w.heap.size w w' ∧ ∃ l vl vb va, r = .agg #[.int .i64 (L : Int), vl, vb, va] ∧
      Expl L (jLeaf lf1 lf2) (jBr br1 br2) l l.length ∧ l.length ≤ n1 * n2 ∧ TblF w' L l.length vl vb va (tabLf (jLeaf lf1 lf2) l) (tabBr (jBr br1 br2) l) (macc (l.map (jAcc way ac1 ac2)))) := by
  obtain ⟨w1, hw1, hb1, hB1, hk1⟩ := box_blk w #[.int .i64 (L : Int), vl1, vb1, va1] 84
  obtain ⟨w2, hw2, hb2, hB2, hk2⟩ := box_blk w1 #[.int .i64 (L : Int), vl2, vb2, va2] 84
  obtain ⟨w3, hw3, hb3, hB3, hk3⟩ := box_blk w2 #[.int .i64 0, .slice none 0 0, .slice none 0 0, .slice none 0 0] 84
  obtain ⟨w4, hw4, hb4, hB4, hk4⟩ := box_blk w3 #[.slice none 0 0, .slice none 0 0] 128
  have hsz1 := hb1.size
  have hsz2 := hb2.size
  have hsz3 := hb3.size
  have hsz4 := hb4.size
  have hb02 := hb1.trans (hb2.mono hsz1)
  have hb03 := hb02.trans (hb3.mono (by omega))
  have hX : JoiX w3 w.heap.size w1.heap.size L n1 n2 vl1 vb1 va1 vl2 vb2 va2 lf1 lf2 br1 br2 ac1 ac2 := ⟨t1.below hb03, t2.below hb03, (hB1.below hb2).below hb3, hB2.below hb3⟩
  have hS0 : JoiS w3 w4 w3.heap.size (.slice none 0 0) (.slice none 0 0) [] := ⟨hb4, ⟨hB4, own_nil, own_nil, fun k h => by simp [Value.ownBlock] at h⟩, Nat.le_refl _⟩
  have hXX := hide hX
  have hSS0 := hide hS0
  have hNH := hide hNN
  have hlt3 := hB3.lt
  clear t1 t2 hX hS0 hNN
  go_enter Try.func71, Try.ntmps71
  go_wp2_with fail
  refine joi_leaves hXX.out hL hSS0.out ?_ ?_
  · repeat (first | exact Reg.NoQ.body (fun _ _ h => h) (fun _ h => h) | refine Reg.NoQ.then ?_ | refine Reg.NoQ.inBlock ?_)
  iterate 18 (intro _)
  intro w5 va5 vb5 l5 hS5 hE5
  have hSS5 := hide hS5
  have hEE5 := hide hE5
  clear hS5 hE5
  go_wp2_with fail
  refine joi_rounds hXX.out hNH.out hn12 hL hSS5.out hEE5.out ?_ ?_
  · repeat (first | exact Reg.NoQ.body (fun _ _ h => h) (fun _ h => h) | refine Reg.NoQ.then ?_ | refine Reg.NoQ.inBlock ?_)
  iterate 77 (intro _)
  intro w6 va6 vb6 l hS6 hE6
  have hlen := hNH.out.len hE6.nodup hE6.reach
  have hl20 : l.length ≤ 20000 := Nat.le_trans hlen hn12
  have hl1 : 1 ≤ l.length := List.length_pos_of_mem (hE6.leaves 0 (by omega))
  obtain ⟨Av, cvv, rfl⟩ := slice_of_own hS6.pr.owa
  have hcs := hS6.pr.blk.cell
  have hc3 := (hXX.out.at hS6.below).b1.cell
  have hSS6 := hide hS6
  have hEE6 := hide hE6
  have hlenH := hide hlen
  clear hS6 hE6 hlen
  go_wp2_with (go_at_call 84; refine Calls.ret (blank_any hL hL1 hl20 hl1) ?_; rintro v7 w7 ⟨hb7, gl, ga, gv, cv, gi, ci, gj, rfl, hT7⟩
               obtain ⟨w8, hw8, hb8, hB8, hk8⟩ := box_blk w7 #[.int .i64 (L : Int), .slice (some ⟨gl, 0, none⟩) L L, .slice (some ⟨gv, 0, none⟩) L cv, .slice (some ⟨ga, 0, none⟩) l.length l.length] 84
               have hT8 := hide (show SubT w6 w8 L l.length w7.heap.size gl ga gv cv gi ci gj (fun _ => 0) (fun _ _ _ => 0) (fun _ => false) from ⟨hb7.trans (hb8.mono hb7.size), hT7.below hb8, hB8, hb7.size⟩)
               clear hb7 hT7 hcs hc3)
  refine joi_fx hXX.out hNH.out hL hSS6.out hEE6.out hl20 hT8.out ?_ ?_
  · repeat (first | exact Reg.NoQ.body (fun _ _ h => h) (fun _ h => h) | refine Reg.NoQ.then ?_ | refine Reg.NoQ.inBlock ?_)
  iterate 87 (intro _)
  intro w9 lf9 br9 hT9 hlf hbr
  have hTT9 := hide hT9
  have hlfH := hide hlf
  have hbrH := hide hbr
  clear hT9 hlf hbr
  go_wp2_with fail
  refine joi_fa hXX.out hNH.out hway hSS6.out hEE6.out.reach hl20 hTT9.out ?_ ?_
  · repeat (first | exact Reg.NoQ.body (fun _ _ h => h) (fun _ h => h) | refine Reg.NoQ.then ?_ | refine Reg.NoQ.inBlock ?_)
  iterate 32 (intro _)
  intro wa ac hTa hac
  have hbb := hSS6.out.below
  have hb3a : Below w3.heap.size w3 wa := hbb.trans (hTa.below.mono hbb.size)
  have hcT := hTa.b.cell
  have hBa := hB3.below hb3a
  have hca := hBa.cell
  have hfa := hBa.frozen
  have hla := hBa.lt
  have hTTa := hide hTa
  have hacH := hide hac
  have hb3aH := hide hb3a
  clear hTa hac hbb hb3a
  go_wp2_with fail
  obtain ⟨wF, hwF, hgF, hkF⟩ := set4t_facts hBa (.int .i64 (L : Int)) (.slice (some ⟨gl, 0, none⟩) L L) (.slice (some ⟨gv, 0, none⟩) L cv) (.slice (some ⟨ga, 0, none⟩) l.length l.length)
  change bodyPost _ _ _ _ _ (set4t wa w2.heap.size (.int .i64 (L : Int)) (.slice (some ⟨gl, 0, none⟩) L L) (.slice (some ⟨gv, 0, none⟩) L cv) (.slice (some ⟨ga, 0, none⟩) l.length l.length))
  rw [hwF]
  have hcF := hgF.cell
  have hsa := hb3aH.out.size
  have hs6 := hSS6.out.below.size
  refine bodyPost_ret (v := .agg #[.int .i64 (L : Int), .slice (some ⟨gl, 0, none⟩) L L, .slice (some ⟨gv, 0, none⟩) L cv, .slice (some ⟨ga, 0, none⟩) l.length l.length]) (by simp [results, Try.results71, go_sem, hcF]) rfl
    ⟨(hb03.trans (hb3aH.out.mono (by omega))).trans (hkF.below (by omega) fun b hb e => by omega), l, _, _, _, rfl, hEE6.out, hlenH.out, ?_⟩
  have hT2 := hTTa.out.t.keep hkF (fun k e => by omega)
  exact hT2.read.congr hlfH.out hbrH.out fun q hq => by
    obtain ⟨p, hp⟩ := get_lt hq
    rw [hacH.out q p hp]
    have e : macc (l.map (jAcc way ac1 ac2)) q = jAcc way ac1 ac2 p := getD_some (map_get hp)
    exact e.symm

/-- The table of the pairs is a machine of the joined language. -/
theorem join_law {w : World} {L way : Nat} {vl vb va : Value} {acA acB : List Bool} {lfA lfB : List Nat} {tA tB : List (List (List Nat))} {l : List (Nat × Nat)} (hE : Expl L (jLeaf (mleaf lfA) (mleaf lfB)) (jBr (mbr tA) (mbr tB)) l l.length)
    (hT : TblF w L l.length vl vb va (tabLf (jLeaf (mleaf lfA) (mleaf lfB)) l) (tabBr (jBr (mbr tA) (mbr tB)) l) (macc (l.map (jAcc way (macc acA) (macc acB))))) :
    ∃ ac lf t, MOK L ac lf t ∧ ac.length = l.length ∧ TblF w L ac.length vl vb va (mleaf lf) (mbr t) (macc ac) ∧ ∀ tr : Tr, tr.ok L → macc ac (runT (mleaf lf) (mbr t) tr) = wayJ way (macc acA (runT (mleaf lfA) (mbr tA) tr)) (macc acB (runT (mleaf lfB) (mbr tB) tr)) := by
  obtain ⟨h1, -, h3⟩ := hE.machine (acc := jAcc way (macc acA) (macc acB))
  refine ⟨_, _, _, h1, by simp, hT.lists, fun tr htr => ?_⟩
  rw [h3 tr htr, join_run]
  rfl
end Go.Proofs.Ytnimlcbgeiajiaa
