/-
  Part PE of a proof.
-/
import Derived.Test.YtakpmdmjbgipiaaGreatDoorPS
import Derived.Test.YtakpmdmjbgipiaaGreatDoorPA
set_option maxHeartbeats 16000000
set_option maxRecDepth 100000
set_option linter.unusedVariables false
set_option linter.unusedSimpArgs false
namespace Go.Proofs.YtakpmdmjbgipiaaGreatDoor
open Go.RowKit
set_option maxHeartbeats 16000000
set_option maxRecDepth 100000
def regionsOf : Code → List Code
 | .region i o d => [.region i o d]
 | .loop c => regionsOf c
 | .seq a b => regionsOf a ++ regionsOf b
 | .block _ c => regionsOf c
 | .scope c => regionsOf c
 | .cond _ a b => regionsOf a ++ regionsOf b
 | _ => []
def regionAt (f : Func) (k : Nat) : Code := match f.body with
 | some c => (regionsOf c).getD k .skip
 | none => .skip
structure AllB (w0 w : World) (l : List (Nat × TypeId × Array Value)) : Prop where
 below : Below w0.heap.size w0 w
 blk : ∀ x ∈ l, Blk w x.1 x.2.1 x.2.2 ∧ w0.heap.size ≤ x.1
 nodup : (l.map (·.1)).Nodup
theorem AllB.nil (w : World) : AllB w w [] := ⟨Below.refl _ _, fun _ h => by simp at h, by simp⟩
theorem AllB.add {w0 w w1 : World} {l : List (Nat × TypeId × Array Value)} (h : AllB w0 w l) (hb : Below w.heap.size w w1) {g : Nat} {e : TypeId} {cs : Array Value} (hg : Blk w1 g e cs) (hs : w.heap.size ≤ g) : AllB w0 w1 ((g, e, cs) :: l) := by
 refine ⟨h.below.trans (hb.mono h.below.size), fun x hx => ?_, ?_⟩
 ·rcases List.mem_cons.1 hx with rfl | hx
  ·exact ⟨hg, Nat.le_trans h.below.size hs⟩
  ·exact ⟨(h.blk x hx).1.below hb, (h.blk x hx).2⟩
 ·rw [List.map_cons, List.nodup_cons]
  refine ⟨fun hx => ?_, h.nodup⟩
  obtain ⟨x, hx, e⟩ := List.mem_map.1 hx
  have := (h.blk x hx).1.lt
  dsimp only at e
  omega
theorem AllB.drew {w0 w : World} {l : List (Nat × TypeId × Array Value)} (h : AllB w0 w l) : AllB w0 w.drew l :=
 ⟨h.below.trans ((drewB w).mono h.below.size), h.blk, h.nodup⟩
theorem AllB.pick {w0 w : World} {l : List (Nat × TypeId × Array Value)} (h : AllB w0 w l) (l' : List (Nat × TypeId × Array Value)) (hl : ∀ x ∈ l', x ∈ l) (hn : (l'.map (·.1)).Nodup) : AllB w0 w l' :=
 ⟨h.below, fun x hx => h.blk x (hl x hx), hn⟩
def set4t (w : World) (g : Nat) (v0 v1 v2 v3 : Value) : World := (((w.setCell ⟨g, 0, none⟩ v0).setCell ⟨g, 1, none⟩ v1).setCell ⟨g, 2, none⟩ v2).setCell ⟨g, 3, none⟩ v3
theorem set4t_facts {w : World} {g : Nat} {e : TypeId} {a0 a1 a2 a3 : Value} (h : Blk w g e #[a0, a1, a2, a3]) (v0 v1 v2 v3 : Value) : ∃ wF, set4t w g v0 v1 v2 v3 = wF ∧ Blk wF g e #[v0, v1, v2, v3] ∧ Kept w wF (fun k => k = g) :=
 ⟨_, rfl, (((h.set_ 0 v0).set_ 1 v1).set_ 2 v2).set_ 3 v3,
  ((((Kept.refl w (fun k => k = g)).setCell (p := ⟨g, 0, none⟩) (fun _ => rfl) v0).setCell (p := ⟨g, 1, none⟩) (fun _ => rfl) v1).setCell (p := ⟨g, 2, none⟩) (fun _ => rfl) v2).setCell (p := ⟨g, 3, none⟩) (fun _ => rfl) v3⟩
theorem AllB.set4t {w0 w : World} {l : List (Nat × TypeId × Array Value)} {g : Nat} {e : TypeId} {a b c d : Value} (h : AllB w0 w ((g, e, #[a, b, c, d]) :: l)) (v0 v1 v2 v3 : Value) : AllB w0 (set4t w g v0 v1 v2 v3) ((g, e, #[v0, v1, v2, v3]) :: l) := by
 have hg := (h.blk _ List.mem_cons_self)
 obtain ⟨wF, hwF, hb, hk⟩ := set4t_facts hg.1 v0 v1 v2 v3
 rw [hwF]
 refine ⟨h.below.trans (hk.below h.below.size fun b hb e => by have := hg.2; dsimp only at this; omega), fun x hx => ?_, h.nodup⟩
 rcases List.mem_cons.1 hx with rfl | hx
 ·exact ⟨hb, hg.2⟩
 ·have h1 := h.blk x (List.mem_cons_of_mem _ hx)
  refine ⟨Blk.kept h1.1 hk fun e => ?_, h1.2⟩
  have h2 := h.nodup
  rw [List.map_cons, List.nodup_cons] at h2
  exact h2.1 (List.mem_map.2 ⟨x, hx, e⟩)
section
variable {P : Program} {ops : Array Oper} {rest : List Oper} {o : Oper} {a : Act} {Q : Exit → Act → World → Prop}
theorem wpList_alloc {w : World} {t bytes sz : Nat} {z : Value} (hi : (P.info? t).map (fun i => (i.zero, i.size, i.bytes)) = some (some z, sz, bytes))
  (hgd : o.guard = none) (ho : o.op = .alloc t)
  (h : ∀ g w1, Blk w1 g t z.cells → Below w.heap.size w w1 → w.heap.size ≤ g → wpList P ops Q rest (a.put o.dst (.pointer (some ⟨g, 0, none⟩))) w1) : wpList P ops Q (o :: rest) a w := by
 refine wpList_plain hgd fun K hK => ?_
 obtain ⟨i, h1, h2, h3, h4⟩ := info_parts hi
 have hr : (Instr.alloc t true (.tuple #[])).run P w = .ok (.pointer (some ⟨w.heap.size, 0, none⟩)) (w.alloc (.cells z.cells t)) := by
  simp [Instr.alloc, zeroValue, typeInfo, go_sem, h1, h2]
 unfold Oper.wp execOp
 simp only [ho, Sem.run_bind, Sem.run_pure, Result.andThen_ok, hr]
 exact hK _ _ (h _ _ (Blk.new _ _ _) ((Below.refl _ _).alloc (Nat.le_refl _) _) (Nat.le_refl _))
end
namespace Reg
theorem rest_walkE {P : Program} {Q : Post} {a : Act} {w : World} {l l1 : List Oper} {tab D T : List Nat} (T1 T2 : List Nat) (hT : T1 ++ T2 = T) (hl : pick l.toArray T1 = l1)
  (hc : (T1.all (fun i => decide (i < l.length)) && plainB P false l.toArray tab T1 && D.all (fun r => T1.all fun y => match l.toArray[r]?, l.toArray[y]? with
   | some q, some oy => !loadOp q.op || !eff P false oy || befT tab r y
   | _, _ => true)) = true)
  (h : ∀ Qf : Post, (∀ a w, Rest P l.toArray tab Q (T1 ++ D) T2 a w → Qf .normal a w) → wpList P l.toArray Qf l1 a w) : Rest P l.toArray tab Q D T a w := by
 subst hT
 exact rest_walk' T1 T2 hl hc h
end Reg
theorem info79 : (Tryz.prog.info? 56).map (fun i => (i.zero, i.size, i.bytes)) = some (some (.agg #[.int .i64 0, .slice none 0 0, .slice none 0 0, .slice none 0 0]), 4, 80) := by kernel_rfl
theorem madeN (z : Value) (n : Nat) : madeCells #[z] (n * 1) = (List.replicate n z).toArray := by rw [madeCells_one, repl_list]
theorem net_rows {w : World} {g1 n c1 c2 k1 k2 B : Nat} {L : Int} {v4 : Value} {A1 A2 : Option Addr} {acc : List Int} (hn : n ≤ 200000) (hB1 : Blk w g1 28 #[.int .i64 L, .int .i64 (n : Int), .slice A1 k1 c1, .slice A2 k2 c2, v4])
    (h2 : Sl w B 1 encI A2 acc) (hk2 : k2 = acc.length) (hB : B ≤ w.heap.size) (hin : ∀ x ∈ acc, inN n x = true) {v2 : Value}
    {u0 u3 u4 u5 u6 u7 u8 u9 u10 u11 u12 u13 u14 u15 u16 u17 u18 u19 u20 u21 u22 u23 u24 u25 u26 u27 u28 u29 u30 u31 u32 u33 u34 u35 u36 u37 u38 u39 u40 u41 u42 u43 u44 u45 u46 u47 u48 u49 u50 u51 u52 u53 u54 u55 u56 u57 u58 u59 u60 u61 u62 u63 u64 u65 : Value}
    {Q : Exit → Act → World → Prop} (hN : Reg.NoQ Q)
    (hQ : ∀ (x7 x8 x9 x10 x11 x12 x13 x14 x15 x16 x17 x18 x19 : Value) (w' : World) (g3 gn gm : Nat), AllB w w' [(g3, 56, #[.int .i64 L, .slice (some ⟨gn, 0, none⟩) n n, .slice A1 k1 c1, .slice (some ⟨gm, 0, none⟩) n n]), (gn, 49, (List.replicate n (Value.slice none 0 0)).toArray), (gm, 4, ((marksM n acc).map Value.bool).toArray)] →
      Q .normal ⟨List.toArray (u0 :: (.pointer (some ⟨g1, 0, none⟩)) :: v2 :: (.pointer (some ⟨g3, 0, none⟩)) :: u4 :: u5 :: u6 :: x7 :: x8 :: x9 :: x10 :: x11 :: x12 :: x13 :: x14 :: x15 :: x16 :: x17 :: x18 :: x19 :: u20 :: u21 :: u22 :: u23 :: u24 :: u25 :: u26 :: u27 :: u28 :: u29 ::
      u30 :: u31 :: u32 :: u33 :: u34 :: u35 :: u36 :: u37 :: u38 :: u39 :: u40 :: u41 :: u42 :: u43 :: u44 :: u45 :: u46 :: u47 :: u48 :: u49 :: u50 :: u51 :: u52 :: u53 :: u54 :: u55 :: u56 :: u57 :: u58 :: u59 :: u60 :: u61 :: u62 :: u63 :: u64 :: u65 :: []), []⟩ w') :
    (regionAt Tryz.f45 1).wp Tryz.prog Q ⟨List.toArray (u0 :: (.pointer (some ⟨g1, 0, none⟩)) :: v2 :: u3 :: u4 :: u5 :: u6 :: u7 :: u8 :: u9 :: u10 :: u11 :: u12 :: u13 :: u14 :: u15 :: u16 :: u17 :: u18 :: u19 :: u20 :: u21 :: u22 :: u23 :: u24 :: u25 :: u26 :: u27 :: u28 :: u29 :: u30 :: u31 :: u32 :: u33 :: u34 ::
      u35 :: u36 :: u37 :: u38 :: u39 :: u40 :: u41 :: u42 :: u43 :: u44 :: u45 :: u46 :: u47 :: u48 :: u49 :: u50 :: u51 :: u52 :: u53 :: u54 :: u55 :: u56 :: u57 :: u58 :: u59 :: u60 :: u61 :: u62 :: u63 :: u64 :: u65 :: []), []⟩ w := by
  conv => arg 2; whnf
  have hc1 := hB1.cell
  have hk2H := hide hk2
  have hinH := hide hin
  clear hk2 hin
  refine Reg.region_spl [0, 1, 0, 4, 12, 0, 32, 0, 128, 0, 512, 1920, 4095, 0, 16383] (.node 4 11 (.node 4 13 (.node 11 13 (.node 12 13 (.leaf [0, 1, 2, 3, 5, 6, 7, 8, 9, 10, 4, 11, 12, 13, 14]) (.leaf [0, 1, 2, 3, 5, 6, 7, 8, 9, 10, 4, 11, 13, 12, 14])) (.leaf [0, 1, 2, 3, 5, 6, 7, 8, 9, 10, 4, 13, 11, 12, 14])) (.leaf [0, 1, 2, 3, 5, 6, 7, 8, 9, 10, 13, 4, 11, 12, 14])) (.node 4 13 (.node 12 13 (.leaf [0, 1, 2, 3, 5, 6, 7, 8, 9, 10, 11, 4, 12, 13, 14]) (.leaf [0, 1, 2, 3, 5, 6, 7, 8, 9, 10, 11, 4, 13, 12, 14])) (.node 11 13 (.leaf [0, 1, 2, 3, 5, 6, 7, 8, 9, 10, 11, 13, 4, 12, 14]) (.leaf [0, 1, 2, 3, 5, 6, 7, 8, 9, 10, 13, 11, 4, 12, 14])))) (by kernel_rfl) hN ?_
  dsimp only [Reg.Spl.goal]
  have hA := (AllB.nil w).drew
  repeat' (with_reducible refine And.intro ?_ ?_)
  all_goals
    refine Reg.rest_walkE [0, 1, 2, 3, 5, 6, 7, 8, 9, 10] _ rfl rfl (by kernel_rfl) ?_
    intro Qf hQf
    go_wp2_with fail
    refine hQf _ _ ?_
    clear hQf
    iterate 5
      first
      | (refine Reg.rest_act' 4 _ [1, 6, 8, 10] rfl (by kernel_rfl) ?_
         intro Qf hQf
         simp only [gT, gS, gZ]
         refine wpList_make Tryz.underlying54 info50 (by omega) (by omega) n (by omega) rfl _ _ rfl rfl rfl ?_
         intro gn w1 hb hB hg
         first | refine hQf _ _ ⟨Reg.same_below hB _ rfl, ?_⟩ | refine ⟨Reg.same_below hB _ rfl, ?_⟩
         replace hA := hA.add hB hb hg
         try clear hQf
         clear hb hB hg)
      | (refine Reg.rest_act' 11 _ [1, 3, 6] rfl (by kernel_rfl) ?_
         intro Qf hQf
         simp only [gT, gS, gZ]
         go_wp2_with fail
         rw [hk2H.out]
         refine Calls.ret (marks_any (h2.keep (B' := B) (fun p hp => hA.below.cell (by omega)) (Nat.le_refl _)) (by have := hA.below.size; omega) hn hinH.out) ?_
         rintro v w1 ⟨hB, ⟨gm, -, rfl, hb⟩, hfr⟩
         have hg := hfr gm rfl
         rw [marksM_len]
         go_wp2_with fail
         first | refine hQf _ _ ⟨Reg.same_below hB _ rfl, ?_⟩ | refine ⟨Reg.same_below hB _ rfl, ?_⟩
         replace hA := hA.add hB hb hg
         try clear hQf
         clear hb hB hg hfr)
      | (refine Reg.rest_walkE [13] _ rfl rfl (by kernel_rfl) ?_
         intro Qf hQf
         refine wpList_alloc info79 rfl rfl ?_
         intro g3 w1 hb hB hg
         refine hQf _ _ ?_
         replace hA := hA.add hB hb hg
         try clear hQf
         clear hb hB hg)
      | (refine Reg.rest_walkE [12] _ rfl rfl (by kernel_rfl) ?_
         intro Qf hQf
         go_wp2_with fail
         first | refine hQf _ _ ?_ | skip
         try clear hQf)
      | (refine Reg.rest_walkE [14] _ rfl rfl (by kernel_rfl) ?_
         intro Qf hQf
         have hb3 := (hA.blk (g3, 56, #[.int .i64 0, .slice none 0 0, .slice none 0 0, .slice none 0 0]) (by simp [Value.cells])).1
         have hc3 := hb3.cell
         have hf3 := hb3.frozen
         have hl3 := hb3.lt
         clear hb3
         go_wp2_with fail
         first | refine hQf _ _ ?_ | skip
         try clear hQf)
    refine Reg.rest_end ?_
    obtain ⟨hbel, hblk, hnd⟩ := hA
    simp only [List.map_cons, List.map_nil, List.nodup_cons, List.mem_cons, List.not_mem_nil, not_or, or_false, List.nodup_nil, not_false_eq_true, and_true] at hnd
    refine hQ _ _ _ _ _ _ _ _ _ _ _ _ _ _ g3 gn gm ?_
    have hA2 : AllB w w1 [(g3, 56, #[.int .i64 0, .slice none 0 0, .slice none 0 0, .slice none 0 0]), (gn, 49, (List.replicate n (Value.slice none 0 0)).toArray), (gm, 4, ((marksM n acc).map Value.bool).toArray)] := by
      refine ⟨hbel, ?_, ?_⟩
      · intro x hx
        rw [← madeN] at hx
        refine hblk x ?_
        simp only [List.mem_cons, List.not_mem_nil, or_false] at hx ⊢
        rcases hx with rfl | rfl | rfl
        · first | exact .inl rfl | exact .inr (.inl rfl) | exact .inr (.inr rfl)
        · first | exact .inl rfl | exact .inr (.inl rfl) | exact .inr (.inr rfl)
        · first | exact .inl rfl | exact .inr (.inl rfl) | exact .inr (.inr rfl)
      · simp only [List.map_cons, List.map_nil, List.nodup_cons, List.mem_cons, List.not_mem_nil, not_or, or_false, List.nodup_nil, not_false_eq_true, and_true]
        omega
    exact hA2.set4t _ _ _ _
end Go.Proofs.YtakpmdmjbgipiaaGreatDoor
namespace Go.Proofs.YtakpmdmjbgipiaaGreatDoor
open Go.RowKit
set_option maxHeartbeats 16000000
set_option maxRecDepth 100000
def rangeC (n : Nat) (f : Nat → Value) : Array Value := ((List.range n).map f).toArray
theorem rangeC_get {n i : Nat} (f : Nat → Value) (h : i < n) : (rangeC n f)[i]? = some (f i) := by simp [rangeC, h]
theorem rangeC_size (n : Nat) (f : Nat → Value) : (rangeC n f).size = n := by simp [rangeC]
theorem rangeC_set (n i : Nat) (f : Nat → Value) (v : Value) : (rangeC n f).setIfInBounds i v = rangeC n (fun x => if x = i then v else f x) := by
 apply Array.ext_getElem?
 intro j
 rw [Array.getElem?_setIfInBounds]
 by_cases hj : j < n
 ·by_cases e : i = j
  ·subst e
   rw [if_pos rfl, if_pos (by rw [rangeC_size]; exact hj), rangeC_get _ hj, if_pos rfl]
  ·rw [if_neg e, rangeC_get _ hj, rangeC_get _ hj, if_neg (fun h => e h.symm)]
 ·have e1 : ∀ g : Nat → Value, (rangeC n g)[j]? = none := fun g => Array.getElem?_eq_none (by rw [rangeC_size]; omega)
  rw [e1, e1]
  split
  ·rw [if_neg (by rw [rangeC_size]; omega)]
  ·rfl
theorem rangeC_congr {n : Nat} {f g : Nat → Value} (h : ∀ i, i < n → f i = g i) : rangeC n f = rangeC n g := by
 unfold rangeC
 rw [List.map_congr_left fun i hi => h i (List.mem_range.1 hi)]
theorem rangeC_rep (n : Nat) (z : Value) : Array.replicate n z = rangeC n fun _ => z := by
 apply Array.ext'
 simp [rangeC, List.map_const']
def up1 {D : Type} (f : Nat → D) (i : Nat) (v : D) : Nat → D := fun x => if x = i then v else f x
def up2 {D : Type} (f : Nat → Nat → D) (i x : Nat) (v : D) : Nat → Nat → D := fun a b => if a = i ∧ b = x then v else f a b
theorem up2_same {D : Type} (f : Nat → Nat → D) (i x : Nat) (v : D) : up2 f i x v i x = v := by simp [up2]
theorem up2_ne {D : Type} {f : Nat → Nat → D} {i x a b : Nat} {v : D} (h : ¬ (a = i ∧ b = x)) : up2 f i x v a b = f a b := if_neg h
structure NetA (w0 wr : World) (n L i gn : Nat) (gi : Nat → Nat) : Prop where
 kept : Kept w0 wr (fun k => k = gn)
 top : Blk wr gn 49 (rangeC n fun s => if s < i then .slice (some ⟨gi s, 0, none⟩) L L else .slice none 0 0)
 row : ∀ s, s < i → Blk wr (gi s) 22 (rangeC L fun _ => .slice none 0 0) ∧ w0.heap.size ≤ gi s
 inj : ∀ s, s < i → ∀ s', s' < i → gi s = gi s' → s = s'
theorem NetA.step {w0 wr w2 : World} {n L i gn gr : Nat} {gi : Nat → Nat} (h : NetA w0 wr n L i gn gi) (hin : i < n) (hb : Below wr.heap.size wr w2) (hr : Blk w2 gr 22 (rangeC L fun _ => .slice none 0 0)) (hg : wr.heap.size ≤ gr) :
  NetA w0 (w2.setCell ⟨gn, i, none⟩ (.slice (some ⟨gr, 0, none⟩) L L)) n L (i + 1) gn (up1 gi i gr) := by
 have hs := h.kept.size
 have hgn := h.top.lt
 have hk := (Kept.refl w2 (fun k => k = gn)).setCell (p := ⟨gn, i, none⟩) (fun _ => rfl) (.slice (some ⟨gr, 0, none⟩) L L)
 have hlt : ∀ s, s < i → gi s < wr.heap.size := fun s hs => (h.row s hs).1.lt
 refine ⟨(h.kept.trans (Kept.of_below hb (fun _ => False)) fun _ _ e => e.elim).trans hk fun _ _ e => e, ?_, fun s hs' => ?_, fun s h1 s' h2 e => ?_⟩
 ·have h1 := (h.top.below hb).set_ i (.slice (some ⟨gr, 0, none⟩) L L)
  rw [rangeC_set] at h1
  rw [rangeC_congr (g := fun x => if x = i then Value.slice (some ⟨gr, 0, none⟩) L L else if x < i then .slice (some ⟨gi x, 0, none⟩) L L else .slice none 0 0) (fun s _ => by
   unfold up1
   by_cases e : s = i
   ·subst e; simp
   ·by_cases e2 : s < i
    ·rw [if_pos (by omega), if_neg e, if_neg e, if_pos e2]
    ·rw [if_neg (by omega), if_neg e, if_neg e2])]
  exact h1
 ·unfold up1
  split
  ·exact ⟨hr.kept hk (fun e => by omega), by omega⟩
  ·obtain ⟨h3, h4⟩ := h.row s (by omega)
   exact ⟨(h3.below hb).kept hk (fun e => h3.ne_ h.top (by decide) e), h4⟩
 ·unfold up1 at e
  split at e <;> split at e
  ·omega
  ·have := hlt s' (by omega); omega
  ·have := hlt s (by omega); omega
  ·exact h.inj s (by omega) s' (by omega) e
structure NetS (w0 wr : World) (n L gn : Nat) (gi : Nat → Nat) (u : Nat → Nat → Value) (l : Nat → Nat → List Int) : Prop where
 kept : Kept w0 wr (fun k => k = gn)
 top : Blk wr gn 49 (rangeC n fun s => .slice (some ⟨gi s, 0, none⟩) L L)
 row : ∀ s, s < n → Blk wr (gi s) 22 (rangeC L (u s)) ∧ w0.heap.size ≤ gi s
 inj : ∀ s, s < n → ∀ s', s' < n → gi s = gi s' → s = s'
 own : ∀ s, s < n → ∀ x, x < L → wr.ownsRow w0.heap.size 3 1 (u s x) (l s x).length ((l s x).map (Value.int .i64))
 sep : ∀ s, s < n → ∀ x, x < L → ∀ s', s' < n → ∀ x', x' < L → ∀ g, (u s x).ownBlock = some g → (u s' x').ownBlock = some g → s = s' ∧ x = x'
theorem NetA.done {w0 wr : World} {n L gn : Nat} {gi : Nat → Nat} (h : NetA w0 wr n L n gn gi) : NetS w0 wr n L gn gi (fun _ _ => .slice none 0 0) (fun _ _ => []) := by
 refine ⟨h.kept, ?_, h.row, h.inj, fun s _ x _ => own_nil, fun s _ x _ s' _ x' _ g hg => by simp [Value.ownBlock] at hg⟩
 have h1 := h.top
 rw [rangeC_congr (g := fun s => Value.slice (some ⟨gi s, 0, none⟩) L L) (fun s hs => by rw [if_pos hs])] at h1
 exact h1
theorem NetS.keep {w0 wr w2 : World} {n L gn : Nat} {gi : Nat → Nat} {u : Nat → Nat → Value} {l : Nat → Nat → List Int} (h : NetS w0 wr n L gn gi u l) (hb : Below wr.heap.size wr w2) : NetS w0 w2 n L gn gi u l :=
 ⟨h.kept.trans (Kept.of_below hb (fun _ => False)) fun _ _ e => e.elim, h.top.below hb, fun s hs => ⟨(h.row s hs).1.below hb, (h.row s hs).2⟩, h.inj, fun s hs x hx => own_below (h.own s hs x hx) hb, h.sep⟩
theorem NetS.step {w0 wr w2 : World} {n L gn f y : Nat} {gi : Nat → Nat} {u : Nat → Nat → Value} {l : Nat → Nat → List Int} (h : NetS w0 wr n L gn gi u l) (hf : f < n) (hy : y < L) {v' : Value} {to : Int}
  (hk : Kept wr w2 (fun k => (u f y).ownBlock = some k)) (ho : w2.ownsRow w0.heap.size 3 1 v' ((l f y).length + 1) ((l f y).map (Value.int .i64) ++ [.int .i64 to])) (hmv : Moved wr (u f y) v') :
  NetS w0 (w2.setCell ⟨gi f, y, none⟩ v') n L gn gi (up2 u f y v') (up2 l f y (l f y ++ [to])) := by
 have hof := h.own f hf y hy
 have hs := h.kept.size
 have hk2 := (Kept.refl w2 (fun k => k = gi f)).setCell (p := ⟨gi f, y, none⟩) (fun _ => rfl) v'
 have hr2 : ∀ s, s < n → Blk w2 (gi s) 22 (rangeC L (u s)) := fun s hs => (h.row s hs).1.kept hk (own_blk_ne hof (h.row s hs).1 (by decide))
 have ht2 : Blk w2 gn 49 (rangeC n fun s => .slice (some ⟨gi s, 0, none⟩) L L) := h.top.kept hk (own_blk_ne hof h.top (by decide))
 have hlt : ∀ s, s < n → ∀ x, x < L → ∀ g, (u s x).ownBlock = some g → g < wr.heap.size := fun s hs x hx g hg => own_lt (h.own s hs x hx) hg
 have hnew : ∀ s, s < n → ∀ x, x < L → ¬ (s = f ∧ x = y) → ∀ g, v'.ownBlock = some g → (u s x).ownBlock ≠ some g := fun s hs x hx hne g hg e => by
  rcases hmv with h1 | ⟨g', h1, h2⟩
  ·exact hne (h.sep s hs x hx f hf y hy g e (by rw [← h1]; exact hg))
  ·rw [hg] at h1
   have := hlt s hs x hx g e
   injection h1 with h1
   omega
 refine ⟨(h.kept.trans hk fun b hb e => by have := own_base hof e; omega).trans hk2 fun b hb e => by have := (h.row f hf).2; omega, ht2.kept hk2 (fun e => (hr2 f hf).ne_ ht2 (by decide) e.symm), fun s hs' => ⟨?_, (h.row s hs').2⟩, h.inj, fun s hs' x hx => ?_, fun s h1 x h2 s' h3 x' h4 g hg hg' => ?_⟩
 ·by_cases e : s = f
  ·subst e
   have h1 := (hr2 s hs').set_ y v'
   rw [rangeC_set] at h1
   rw [rangeC_congr (g := fun x => if x = y then v' else u s x) (fun x _ => by simp [up2])]
   exact h1
  ·rw [rangeC_congr (g := u s) (fun x _ => up2_ne fun hh => e hh.1)]
   exact (hr2 s hs').kept hk2 fun hh => e (h.inj s hs' f hf hh)
 ·by_cases e : s = f ∧ x = y
  ·obtain ⟨rfl, rfl⟩ := e
   rw [up2_same, up2_same, List.length_append, List.map_append]
   exact own_ty hk2 ho (fun g cs hg hB => by subst hg; exact hB.ne_ (hr2 s hs') (by decide) rfl)
  ·rw [up2_ne e, up2_ne e]
   refine own_ty hk2 (hk.ownsRow (h.own s hs' x hx) fun g hg hx' => e (h.sep s hs' x hx f hf y hy g hg hx')) (fun g cs hg hB => by subst hg; exact hB.ne_ (hr2 f hf) (by decide) rfl)
 ·by_cases e1 : s = f ∧ x = y <;> by_cases e2 : s' = f ∧ x' = y
  ·exact ⟨e1.1.trans e2.1.symm, e1.2.trans e2.2.symm⟩
  ·rw [e1.1, e1.2, up2_same] at hg
   rw [up2_ne e2] at hg'
   exact absurd hg' (hnew s' h3 x' h4 e2 g hg)
  ·rw [e2.1, e2.2, up2_same] at hg'
   rw [up2_ne e1] at hg
   exact absurd hg (hnew s h1 x h2 e1 g hg')
  ·rw [up2_ne e1] at hg
   rw [up2_ne e2] at hg'
   exact h.sep s h1 x h2 s' h3 x' h4 g hg hg'
theorem net_read {wr : World} {n L gn B base : Nat} {gi : Nat → Nat} {u : Nat → Nat → Value} {l : Nat → Nat → List Int} (top : Blk wr gn 49 (rangeC n fun s => .slice (some ⟨gi s, 0, none⟩) L L)) (row : ∀ s, s < n → Blk wr (gi s) 22 (rangeC L (u s))) (own : ∀ s, s < n → ∀ x, x < L → wr.ownsRow base 3 1 (u s x) (l s x).length ((l s x).map (Value.int .i64))) (hB : wr.heap.size ≤ B) (hn : n ≤ 4000000) (hL : L ≤ 4000000) (hl : ∀ s, s < n → ∀ x, x < L → (l s x).length ≤ 4000000) :
  VSl R2 wr B (some ⟨gn, 0, none⟩) ((List.range n).map fun s => (List.range L).map fun x => l s x) := by
 refine ⟨by simp; omega, fun _ => ⟨gn, 0, rfl, by have := top.lt; omega, fun s d hd => ?_⟩⟩
 have hs : s < n := by simpa using lt_of_get hd
 rw [map_get (List.getElem?_range hs)] at hd
 have hd := Option.some.inj hd
 subst hd
 refine ⟨.slice (some ⟨gi s, 0, none⟩) L L, by rw [top.cell, Nat.zero_add, rangeC_get _ hs], _, L, by rw [List.length_map, List.length_range], by simp; omega, fun _ => ⟨gi s, 0, rfl, by have := (row s hs).lt; omega, fun x d hd => ?_⟩⟩
 have hx : x < L := by simpa using lt_of_get hd
 rw [map_get (List.getElem?_range hx)] at hd
 have hd := Option.some.inj hd
 subst hd
 exact ⟨u s x, by rw [(row s hs).cell, Nat.zero_add, rangeC_get _ hx], own_slI (own s hs x hx) rfl hB (by have := hl s hs x hx; omega)⟩
end Go.Proofs.YtakpmdmjbgipiaaGreatDoor
