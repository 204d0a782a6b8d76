/-
  Part PG of a proof.
-/
import Derived.WalkMore
import Derived.ScopeJumps
import Derived.Test.YtakpmdmjbgipiaaGreatDoorPA
import Derived.Test.YtakpmdmjbgipiaaGreatDoorPF
set_option maxHeartbeats 16000000
set_option maxRecDepth 100000
set_option linter.unusedVariables false
set_option linter.unusedSimpArgs false
namespace Go.Proofs.YtakpmdmjbgipiaaGreatDoor
open Go.RowKit
set_option maxHeartbeats 16000000
set_option maxRecDepth 100000
def setN (m : List Bool) : List Nat := (List.range m.length).filter fun q => m.getD q false
theorem setL_nat (m : List Bool) : setL m = natL (setN m) := rfl
theorem natL_inj {l k : List Nat} (h : natL l = natL k) : l = k := by
 unfold natL at h
 exact (List.map_inj_right fun a b e => by omega).1 h
theorem setN_inj {m k : List Bool} (hl : m.length = k.length) (h : setN m = setN k) : m = k := setL_inj hl (by rw [setL_nat, setL_nat, h])
theorem setN_lt {m : List Bool} {n : Nat} (hm : m.length = n) : ∀ x ∈ setN m, x < n := fun x hx => by
 have := List.mem_range.1 (List.mem_filter.1 hx).1
 omega
def keyB (l : List Nat) : ByteArray := ⟨(keyN l).toArray⟩
theorem keyB_inj (a b : List Nat) (h : keyB a = keyB b) : a = b := by
 unfold keyB at h
 injection h with h
 exact keyN_inj (by simpa using congrArg Array.toList h)
def encK (l : List Nat) : Value := .string (keyB l)
theorem keyS : KeyOK Tryz.prog 9 encK := keyOK_string Tryz.underlying9 keyB keyB_inj
theorem zero3 (w : World) : (zeroValue 3).run Tryz.prog w = .ok (.int .i64 0) w := by kernel_rfl
def posL {S : Type} [DecidableEq S] (l : List S) (a : S) : Nat := l.idxOf a
theorem map_pos {S T : Type} [DecidableEq S] [DecidableEq T] {f : S → T} : ∀ {l : List S} {a : S}, (∀ b ∈ l, f b = f a → b = a) → posL (l.map f) (f a) = posL l a ∧ (f a ∈ l.map f ↔ a ∈ l)
 | [], a, _ => ⟨rfl, by simp⟩
 | b :: l, a, h => by
  obtain ⟨h1, h2⟩ := map_pos (f := f) (l := l) (a := a) fun c hc => h c (List.mem_cons_of_mem _ hc)
  by_cases e : b = a
  ·subst e
   simp [posL]
  ·have e2 : f b ≠ f a := fun hh => e (h b List.mem_cons_self hh)
   have e3 : (f b == f a) = false := by simpa using e2
   have e4 : (b == a) = false := by simpa using e
   unfold posL at h1 ⊢
   rw [List.map_cons, List.idxOf_cons, List.idxOf_cons, e3, e4]
   refine ⟨by rw [h1], ?_⟩
   rw [List.mem_cons, List.mem_cons, h2]
   constructor
   ·rintro (h3 | h3)
    ·exact absurd h3.symm e2
    ·exact .inr h3
   ·rintro (h3 | h3)
    ·exact absurd h3.symm e
    ·exact .inr h3
structure SubM (w0 wr : World) (a : NF) (g2 g4 g6 g7 gm : Nat) (cs : Array Value) (vN vA vS : Value) (all : List (List Bool)) (t : List (List Nat)) (us ws : List Value) (N : Nat → Prop) : Prop where
 below : Below w0.heap.size w0 wr
 b2 : Blk wr g2 56 cs
 b4 : Blk wr g4 52 #[vN, vA]
 b6 : Blk wr g6 96 #[.map (some gm)]
 b7 : Blk wr g7 49 #[vS]
 map : IdxMap wr gm ((all.map setN).map encK)
 sets : wr.ownsRow w0.heap.size 22 1 vS all.length us
 setR : RowsI wr w0.heap.size N us (all.map setL)
 acc : wr.ownsRow w0.heap.size 4 1 vA all.length ((all.map a.has).map Value.bool)
 nxt : wr.ownsRow w0.heap.size 22 1 vN t.length ws
 nxtR : RowsI wr w0.heap.size N ws (t.map natL)
 sep : ∀ g, vS.ownBlock = some g → vN.ownBlock ≠ some g
 ge : w0.heap.size ≤ g2 ∧ w0.heap.size ≤ g4 ∧ w0.heap.size ≤ g6 ∧ w0.heap.size ≤ g7 ∧ w0.heap.size ≤ gm
 len : ∀ m ∈ all, m.length = a.n
section
variable {w0 wr w' : World} {a : NF} {g2 g4 g6 g7 gm : Nat} {cs : Array Value} {vN vA vS : Value} {all : List (List Bool)} {t : List (List Nat)} {us ws : List Value} {N : Nat → Prop}
theorem SubM.keep (h : SubM w0 wr a g2 g4 g6 g7 gm cs vN vA vS all t us ws N) (hb : Below wr.heap.size wr w') : SubM w0 w' a g2 g4 g6 g7 gm cs vN vA vS all t us ws N :=
 ⟨h.below.trans (hb.mono h.below.size), h.b2.below hb, h.b4.below hb, h.b6.below hb, h.b7.below hb, h.map.keep (hb.block _ h.map.lt), own_below h.sets hb,
  h.setR.keep (Kept.of_below hb (fun _ => False)) (fun _ _ _ e => e.elim) (fun _ _ x => x) (Nat.le_refl _), own_below h.acc hb, own_below h.nxt hb, h.nxtR.keep (Kept.of_below hb (fun _ => False)) (fun _ _ _ e => e.elim) (fun _ _ x => x) (Nat.le_refl _), h.sep, h.ge, h.len⟩
theorem SubM.weak {N' : Nat → Prop} (h : SubM w0 wr a g2 g4 g6 g7 gm cs vN vA vS all t us ws N) (hN : ∀ g, g < wr.heap.size → N g → N' g) : SubM w0 wr a g2 g4 g6 g7 gm cs vN vA vS all t us ws N' :=
 ⟨h.below, h.b2, h.b4, h.b6, h.b7, h.map, h.sets, h.setR.keep (Kept.refl wr (fun _ => False)) (fun _ _ _ e => e.elim) hN (Nat.le_refl _), h.acc, h.nxt, h.nxtR.keep (Kept.refl wr (fun _ => False)) (fun _ _ _ e => e.elim) hN (Nat.le_refl _), h.sep, h.ge, h.len⟩
theorem SubM.idx (h : SubM w0 wr a g2 g4 g6 g7 gm cs vN vA vS all t us ws N) {m : List Bool} (hm : m.length = a.n) : posL (all.map setN) (setN m) = posL all m ∧ (setN m ∈ all.map setN ↔ m ∈ all) :=
 map_pos fun b hb e => setN_inj ((h.len b hb).trans hm.symm) e
theorem SubM.add {m : List Bool} {r vS' vA' : Value} {wm w1 w2 w3 w4 : World} (h : SubM w0 wr a g2 g4 g6 g7 gm cs vN vA vS all t us ws N) (hm : m.length = a.n)
  (hr : wr.ownsRow w0.heap.size 3 1 r (setL m).length ((setL m).map (Value.int .i64))) (hrN : ∀ g, r.ownBlock = some g → N g)
  (hup : IdxMap wm gm (((all.map setN) ++ [setN m]).map encK)) (hg : wr.grownBy wm (some gm)) (hgs : wm.heap.size = wr.heap.size)
  (hk1 : Kept wm w1 (fun k => vS.ownBlock = some k)) (ho1 : w1.ownsRow w0.heap.size 22 1 vS' (all.length + 1) (us ++ [r])) (hmv1 : Moved wm vS vS')
  (hw2 : w2 = w1.setCell ⟨g7, 0, none⟩ vS') (hb3 : Below w2.heap.size w2 w3)
  (hk4 : Kept w3 w4 (fun k => vA.ownBlock = some k)) (ho4 : w4.ownsRow w0.heap.size 4 1 vA' (all.length + 1) ((all.map a.has).map Value.bool ++ [.bool (a.has m)])) :
  SubM w0 (w4.setCell ⟨g4, 1, none⟩ vA') a g2 g4 g6 g7 gm cs vN vA' vS' (all ++ [m]) t (us ++ [r]) ws N ∧ ∀ g cs, Blk wr g 3 cs → Blk (w4.setCell ⟨g4, 1, none⟩ vA') g 3 cs := by
 subst hw2
 have hkg : Kept wr wm (fun k => k = gm) := (Kept.of_grown hg).mono fun b _ e => (Option.some.inj e).symm
 have hk2 := (Kept.refl w1 (fun k => k = g7)).setCell (p := ⟨g7, 0, none⟩) (fun _ => rfl) vS'
 have hk3 : Kept (w1.setCell ⟨g7, 0, none⟩ vS') w3 (fun _ => False) := Kept.of_below hb3 _
 have hk5 := (Kept.refl w4 (fun k => k = g4)).setCell (p := ⟨g4, 1, none⟩) (fun _ => rfl) vA'
 have nm : ∀ {g e} {cs : Array Value}, Blk wr g e cs → g ≠ gm := fun hB e => blk_map_ne hB h.map e
 have m2 := h.b2.kept hkg (nm h.b2)
 have m4 := h.b4.kept hkg (nm h.b4)
 have m6 := h.b6.kept hkg (nm h.b6)
 have m7 := h.b7.kept hkg (nm h.b7)
 have mS := hkg.ownsRow h.sets fun g hg e => own_map_ne h.sets h.map (by rw [hg, e])
 have mA := hkg.ownsRow h.acc fun g hg e => own_map_ne h.acc h.map (by rw [hg, e])
 have mN := hkg.ownsRow h.nxt fun g hg e => own_map_ne h.nxt h.map (by rw [hg, e])
 have n2 := m2.kept hk1 (own_blk_ne mS m2 (by decide))
 have n4 := m4.kept hk1 (own_blk_ne mS m4 (by decide))
 have n6 := m6.kept hk1 (own_blk_ne mS m6 (by decide))
 have n7 := m7.kept hk1 (own_blk_ne mS m7 (by decide))
 have nA := own_ty hk1 mA (not_blk mS (by decide))
 have nN := hk1.ownsRow mN fun g hg e => h.sep g e hg
 have nm1 := hup.kept hk1 (fun e => own_map_ne mS hup e)
 have o2 := (n2.kept hk2 (n2.ne_ n7 (by decide))).below hb3
 have o4 := (n4.kept hk2 (n4.ne_ n7 (by decide))).below hb3
 have o6 := (n6.kept hk2 (n6.ne_ n7 (by decide))).below hb3
 have o7 : Blk w3 g7 49 #[vS'] := (n7.set_ 0 vS').below hb3
 have oS := own_below (own_ty hk2 ho1 (fun g cs e hB => by subst e; exact hB.ne_ n7 (by decide) rfl)) hb3
 have oA := own_below (own_ty hk2 nA (fun g cs e hB => by subst e; exact hB.ne_ n7 (by decide) rfl)) hb3
 have oN := own_below (own_ty hk2 nN (fun g cs e hB => by subst e; exact hB.ne_ n7 (by decide) rfl)) hb3
 have om := (nm1.kept hk2 (fun e => blk_map_ne n7 nm1 e.symm)).keep (hb3.block _ (nm1.kept hk2 (fun e => blk_map_ne n7 nm1 e.symm)).lt)
 have p4 := o4.kept hk4 (own_blk_ne oA o4 (by decide))
 have pm := om.kept hk4 (fun e => own_map_ne oA om e)
 have hs0 := h.below.size
 have hall : Kept wr (w4.setCell ⟨g4, 1, none⟩ vA') (fun k => k = gm ∨ vS.ownBlock = some k ∨ k = g7 ∨ vA.ownBlock = some k ∨ k = g4) :=
  ((((hkg.mono fun _ _ e => .inl e).trans hk1 fun _ _ e => .inr (.inl e)).trans hk2 fun _ _ e => .inr (.inr (.inl e))).trans hk3 fun _ _ e => e.elim).trans hk4 (fun _ _ e => .inr (.inr (.inr (.inl e)))) |>.trans hk5 fun _ _ e => .inr (.inr (.inr (.inr e)))
 have hty3 : ∀ g cs, (g = gm ∨ vS.ownBlock = some g ∨ g = g7 ∨ vA.ownBlock = some g ∨ g = g4) → ¬ Blk wr g 3 cs := by
  rintro g cs (e | e | e | e | e) hB
  ·exact nm hB e
  ·exact own_blk_ne h.sets hB (by decide) e
  ·exact hB.ne_ h.b7 (by decide) e
  ·exact own_blk_ne h.acc hB (by decide) e
  ·exact hB.ne_ h.b4 (by decide) e
 have hge := h.ge
 have hS' : ∀ g, vS'.ownBlock = some g → vN.ownBlock ≠ some g := fun g hg e => by
  rcases hmv1 with hh | ⟨g', hh, hlt⟩
  ·exact h.sep g (by rw [← hh]; exact hg) e
  ·rw [hg] at hh
   injection hh with hh
   have := own_lt mN e
   omega
 refine ⟨⟨h.below.trans (hall.below hs0 ?_), ?_, ?_, ?_, ?_, ?_, ?_, ?_, ?_, ?_, ?_, hS', h.ge, ?_⟩, fun g cs hB => hB.kept hall (fun e => hty3 g cs e hB)⟩
 ·rintro b hb (e | e | e | e | e)
  ·omega
  ·have := own_base h.sets e; omega
  ·omega
  ·have := own_base h.acc e; omega
  ·omega
 ·exact (o2.kept hk4 (own_blk_ne oA o2 (by decide))).kept hk5 ((o2.kept hk4 (own_blk_ne oA o2 (by decide))).ne_ p4 (by decide))
 ·have := p4.set_ 1 vA'
  exact this
 ·exact (o6.kept hk4 (own_blk_ne oA o6 (by decide))).kept hk5 ((o6.kept hk4 (own_blk_ne oA o6 (by decide))).ne_ p4 (by decide))
 ·exact (o7.kept hk4 (own_blk_ne oA o7 (by decide))).kept hk5 ((o7.kept hk4 (own_blk_ne oA o7 (by decide))).ne_ p4 (by decide))
 ·rw [List.map_append]
  exact pm.kept hk5 (fun e => blk_map_ne p4 pm e.symm)
 ·rw [List.length_append]
  exact own_ty hk5 (own_ty hk4 oS (not_blk oA (by decide))) (fun g cs e hB => by subst e; exact hB.ne_ p4 (by decide) rfl)
 ·rw [List.map_append]
  refine RowsI.snoc (h.setR.keep hall (fun g cs _ e => hty3 g cs e) (fun _ _ x => x) (Nat.le_refl _)) ?_ hrN
  exact own_ty hall hr hty3
 ·rw [List.length_append, List.map_append, List.map_append]
  exact own_ty hk5 ho4 (fun g cs e hB => by subst e; exact hB.ne_ p4 (by decide) rfl)
 ·exact own_ty hk5 (own_ty hk4 oN (not_blk oA (by decide))) (fun g cs e hB => by subst e; exact hB.ne_ p4 (by decide) rfl)
 ·exact h.nxtR.keep hall (fun g cs _ e => hty3 g cs e) (fun _ _ x => x) (Nat.le_refl _)
 ·intro x hx
  rcases List.mem_append.1 hx with hx | hx
  ·exact h.len x hx
  ·rw [List.mem_singleton.1 hx]; exact hm
end
end Go.Proofs.YtakpmdmjbgipiaaGreatDoor
namespace Go.Proofs.YtakpmdmjbgipiaaGreatDoor
open Go.RowKit
set_option maxHeartbeats 16000000
set_option maxRecDepth 100000
section
variable {w0 wr : World} {a : NF} {g2 g4 g6 g7 gm : Nat} {v0 v1 v2 v3 vN vA vS : Value} {all : List (List Bool)} {t : List (List Nat)} {us ws : List Value} {N : Nat → Prop} {m : List Bool} {r : Value}
theorem meet_old {S : Type} [DecidableEq S] {l : List S} {s : S} (h : s ∈ l) : meetL l s = l := if_pos h
theorem meet_new {S : Type} [DecidableEq S] {l : List S} {s : S} (h : s ∉ l) : meetL l s = l ++ [s] := if_neg h
theorem pos_new {S : Type} [DecidableEq S] {l : List S} {s : S} (h : s ∉ l) : posL (l ++ [s]) s = l.length := by
 unfold posL
 rw [List.idxOf_append, if_neg h]
 simp
theorem key_set {w : World} {B c : Nat} {A : Option Addr} (h : Sl w B 1 encI A (setL m)) (hB : B ≤ w.heap.size) (hm : m.length = a.n) (hn : a.n ≤ 200000) (hT : PowT w) :
  Calls Tryz.prog 51 #[.slice A (setL m).length c] w (Ret fun r w' => r = encK (setN m) ∧ Below w.heap.size w w') := by
 have hsl := setL_len m
 have e : (setN m).length = (setL m).length := by rw [setL_nat]; simp [natL]
 exact key_any (l := setN m) h hB (fun x hx => by have := setN_lt hm x hx; omega) (by omega) hT
theorem sub1_old (h : SubM w0 wr a g2 g4 g6 g7 gm #[v0, v1, v2, v3] vN vA vS all t us ws N) (hm : m.length = a.n) (hr : wr.ownsRow w0.heap.size 3 1 r (setL m).length ((setL m).map (Value.int .i64)))
  (hn : a.n ≤ 200000) (hT : PowT wr) (hmem : m ∈ all) :
  Calls Tryz.prog 50 #[r, .pointer (some ⟨g6, 0, none⟩), .pointer (some ⟨g7, 0, none⟩), .pointer (some ⟨g4, 0, none⟩), .pointer (some ⟨g2, 0, none⟩)] wr (Ret fun v w' => v = .int .i64 (posL all m : Int) ∧ Below wr.heap.size wr w') := by
 have hsl := setL_len m
 obtain ⟨A, c, rfl, hS⟩ := own_slI hr rfl (Nat.le_refl _) (by omega)
 have hkey := key_set (c := c) hS (Nat.le_refl _) hm hn hT
 obtain ⟨hix, hiff⟩ := h.idx hm
 have hH := hide h
 have hIx := hide hix
 have hM := hide (hiff.2 hmem)
 clear h hS hr hix hiff hmem hT
 go_enter Tryz.func50, Tryz.ntmps50
 go_wp2_with fail
 refine Calls.ret hkey ?_
 rintro v w1 ⟨rfl, hb1⟩
 unfold encK keyB
 have h1 := hH.out.keep hb1
 have hc6 := h1.b6.cell
 have hlk := run_idx_lookup keyS Tryz.underlying96 zero3 h1.map (setN m)
 have hMM := hM.out
 simp only [hMM, if_true, decide_true, encK, keyB] at hlk
 clear hMM
 clear hkey h1
 go_wp2_with fail
 go_ret
 exact ⟨by rw [← hIx.out]; rfl, hb1⟩
theorem sub1_new (h : SubM w0 wr a g2 g4 g6 g7 gm #[v0, v1, v2, v3] vN vA vS all t us ws N) (hNF : IsNF w0 w0.heap.size (.agg #[v0, v1, v2, v3]) a) (ha : a.acc.length = a.n) (hm : m.length = a.n) (hr : wr.ownsRow w0.heap.size 3 1 r (setL m).length ((setL m).map (Value.int .i64))) (hrN : ∀ g, r.ownBlock = some g → N g)
  (hn : a.n ≤ 200000) (hl : all.length ≤ 60000) (hT : PowT wr) (hmem : m ∉ all) :
  Calls Tryz.prog 50 #[r, .pointer (some ⟨g6, 0, none⟩), .pointer (some ⟨g7, 0, none⟩), .pointer (some ⟨g4, 0, none⟩), .pointer (some ⟨g2, 0, none⟩)] wr (Ret fun v w' => v = .int .i64 (all.length : Int) ∧ ∃ vA' vS' us', SubM w0 w' a g2 g4 g6 g7 gm #[v0, v1, v2, v3] vN vA' vS' (all ++ [m]) t us' ws N ∧ ∀ g cs, Blk wr g 3 cs → Blk w' g 3 cs) := by
 have hsl := setL_len m
 have hrH := hide hr
 have hrNH := hide hrN
 obtain ⟨A, c, rfl, hS⟩ := own_slI hr rfl (Nat.le_refl _) (by omega)
 have hkey := key_set (c := c) hS (Nat.le_refl _) hm hn hT
 obtain ⟨hix, hiff⟩ := h.idx hm
 have hH := hide h
 have hM := hide (show ¬ setN m ∈ all.map setN from fun hh => hmem (hiff.1 hh))
 have hSH := hide hS
 have hmH := hide hm
 have haH := hide ha
 clear h hS hr hix hiff hmem hT hrN
 go_enter Tryz.func50, Tryz.ntmps50
 go_wp2_with fail
 refine Calls.ret hkey ?_
 rintro v w1 ⟨rfl, hb1⟩
 unfold encK keyB
 have h1 := hH.out.keep hb1
 have hr1 := own_below hrH.out hb1
 have hc6 := h1.b6.cell
 have hc7 := h1.b7.cell
 have hlk := run_idx_lookup keyS Tryz.underlying96 zero3 h1.map (setN m)
 obtain ⟨wm, hup, hup2, hg, hgs⟩ := run_idx_store keyS Tryz.underlying96 h1.map (setN m) hM.out
 have hMM := hM.out
 rw [List.length_map] at hup
 simp only [hMM, if_false, decide_false, encK, keyB] at hlk
 simp only [encK, keyB] at hup
 have hkg : Kept w1 wm (fun k => k = gm) := (Kept.of_grown hg).mono fun b _ e => (Option.some.inj e).symm
 have hb7m := h1.b7.kept hkg (fun e => blk_map_ne h1.b7 h1.map e)
 have hc7m := hb7m.cell
 have hSm := hkg.ownsRow h1.sets fun g hg' e => own_map_ne h1.sets h1.map (by rw [hg', e])
 obtain ⟨AS, cS, rfl⟩ := slice_of_own h1.sets
 have hszm := hgs
 have hs0 := h1.below.size
 have h1H := hide h1
 have hr1H := hide hr1
 have hgH := hide hg
 have hgsH := hide hgs
 have hupH := hide hup2
 have hbm : w0.heap.size ≤ wm.heap.size := by omega
 clear hMM hkey h1 hr1 hg hgs hup2 hszm
 go_wp2_with (at_builtin; refine wpList_app_new row22 rfl _ _ rfl w0.heap.size (.slice AS all.length cS) all.length _ rfl hSm [.slice A (setL m).length c] 1 rfl rfl (by simp [Value.oneCell']) (by omega) hbm ?_; intro g cap w2 hown2 hk2 hmv2 hg2; have hb72 := hb7m.kept hk2 (own_blk_ne hSm hb7m (by decide)); have hc72 := hb72.cell; have hf72 := hb72.frozen 0; have hl72 := hb72.lt)
 obtain ⟨w3, hw3⟩ : ∃ w3, w3 = w2.setCell ⟨g7, 0, none⟩ (.slice (some ⟨g, 0, none⟩) (all.length + 1) cap) := ⟨_, rfl⟩
 rw [← hw3]
 have hk23 : Kept w2 w3 (fun k => k = g7) := by rw [hw3]; exact (Kept.refl w2 (fun k => k = g7)).setCell (p := ⟨g7, 0, none⟩) (fun _ => rfl) _
 have hb43 : Blk w3 g4 52 #[vN, vA] := ((h1H.out.b4.kept hkg (fun e => blk_map_ne h1H.out.b4 h1H.out.map e)).kept hk2 (own_blk_ne hSm (h1H.out.b4.kept hkg (fun e => blk_map_ne h1H.out.b4 h1H.out.map e)) (by decide))).kept hk23 (((h1H.out.b4.kept hkg (fun e => blk_map_ne h1H.out.b4 h1H.out.map e)).kept hk2 (own_blk_ne hSm (h1H.out.b4.kept hkg (fun e => blk_map_ne h1H.out.b4 h1H.out.map e)) (by decide))).ne_ hb72 (by decide))
 have hb23 : Blk w3 g2 56 #[v0, v1, v2, v3] := ((h1H.out.b2.kept hkg (fun e => blk_map_ne h1H.out.b2 h1H.out.map e)).kept hk2 (own_blk_ne hSm (h1H.out.b2.kept hkg (fun e => blk_map_ne h1H.out.b2 h1H.out.map e)) (by decide))).kept hk23 (((h1H.out.b2.kept hkg (fun e => blk_map_ne h1H.out.b2 h1H.out.map e)).kept hk2 (own_blk_ne hSm (h1H.out.b2.kept hkg (fun e => blk_map_ne h1H.out.b2 h1H.out.map e)) (by decide))).ne_ hb72 (by decide))
 have hA3 : w3.ownsRow w0.heap.size 4 1 vA all.length ((all.map a.has).map Value.bool) := own_ty hk23 (own_ty hk2 (hkg.ownsRow h1H.out.acc fun g hg' e => own_map_ne h1H.out.acc h1H.out.map (by rw [hg', e])) (not_blk hSm (by decide))) (fun g cs e hB => by subst e; exact hB.ne_ hb72 (by decide) rfl)
 have hr3 : w3.ownsRow w0.heap.size 3 1 (.slice A (setL m).length c) (setL m).length ((setL m).map (Value.int .i64)) := own_ty hk23 (own_ty hk2 (hkg.ownsRow hr1H.out fun g hg' e => own_map_ne hr1H.out h1H.out.map (by rw [hg', e])) (not_blk hSm (by decide))) (fun g cs e hB => by subst e; exact hB.ne_ hb72 (by decide) rfl)
 have h03 : Below w0.heap.size w0 w3 := h1H.out.below.trans ((((hkg.mono (fun _ _ e => .inl e)).trans hk2 (fun _ _ e => .inr (.inl e))).trans hk23 (fun _ _ e => .inr (.inr e)) : Kept w1 w3 (fun k => k = gm ∨ (Value.slice AS all.length cS).ownBlock = some k ∨ k = g7)).below hs0 (by
  rintro b hb (e | e | e)
  ·have := h1H.out.ge; omega
  ·have := own_base hSm e; omega
  ·have := h1H.out.ge; omega))
 have hS3 : ∃ A' c', Value.slice A (setL m).length c = .slice A' (setL m).length c' ∧ Sl w3 w3.heap.size 1 encI A' (setL m) := own_slI hr3 rfl (Nat.le_refl _) (by omega)
 obtain ⟨A', c', eA, hS3⟩ := hS3
 injection eA with eA _ ec
 subst eA
 clear ec
 have hacc : ∀ wx : World, Below w3.heap.size w3 wx → Calls Tryz.prog 52 #[.agg #[v0, v1, v2, v3], .slice A (setL m).length c] wx (Ret fun r w' => r = .bool (a.has m) ∧ Below wx.heap.size wx w') := fun wx hx => by
  have hNFx : IsNF wx wx.heap.size (.agg #[v0, v1, v2, v3]) a := hNF.keep (fun p hp => (hx.cell (by have := h03.size; omega)).trans (h03.cell hp)) (by have := h03.size; have := hx.size; omega)
  have := accepting_any (c := c) hNFx haH.out (hS3.keep (w' := wx) (fun p hp => hx.cell hp) hx.size) (Nat.le_refl _) (setL_in hmH.out)
  rwa [has_setL hmH.out] at this
 have hc43 := hb43.cell
 have hc23 := hb23.cell
 obtain ⟨AA, cA, rfl⟩ := slice_of_own hA3
 have hs03 := h03.size
 have hb43H := hide hb43
 have h03H := hide h03
 have hw3H := hide hw3
 clear hlk hup hc6 hc7 hc7m hc72 hf72 hl72 hb43 hb23 hw3 hNF h03
 refine Reg.cC [0, 1, 0, 0, 12, 28, 63, 127, 255] [0, 1, 2, 3, 4, 5, 6, 7, 8] ?_
 refine Reg.rest_walk' [0, 1, 2, 3] [4, 5, 6, 7, 8] rfl (by kernel_rfl) ?_
 intro Qf hQf
 go_wp2_with fail
 first | refine hQf _ _ ?_ | skip
 try clear hQf
 refine Reg.rest_act' 4 [5, 6, 7, 8] [1] rfl (by kernel_rfl) ?_
 intro Qf hQf
 simp only [gT, gS, gZ]
 go_wp2_with fail
 refine Calls.ret (hacc _ (drewB w3)) ?_
 rintro v w4 ⟨rfl, hb4⟩
 have hb34 : Below w3.heap.size w3 w4 := (drewB w3).trans hb4
 go_wp2_with fail
 first | refine hQf _ _ ⟨Reg.same_below hb4 _ rfl, ?_⟩ | refine ⟨Reg.same_below hb4 _ rfl, ?_⟩
 try clear hQf
 have hA4 := own_below hA3 hb34
 have hb44 := hb43H.out.below hb34
 have hs4 := hb34.size
 refine Reg.rest_walk' [5] [6, 7, 8] rfl (by kernel_rfl) ?_
 intro Qf hQf
 go_wp2_with fail
 first | refine hQf _ _ ?_ | skip
 try clear hQf
 refine Reg.rest_act' 6 [7, 8] [1] rfl (by kernel_rfl) ?_
 intro Qf hQf
 simp only [gT, gS, gZ]
 refine wpList_app_new row4 rfl _ _ rfl w0.heap.size (.slice AA all.length cA) all.length _ rfl hA4 [.bool (a.has m)] 1 rfl rfl (by simp [Value.oneCell']) (by omega) (by omega) ?_
 intro g' cap' w5 hown5 hk5 hmv5 hg5
 have hb54 := hb44.kept hk5 (own_blk_ne hA4 hb44 (by decide))
 have hc54 := hb54.cell
 have hf54 := hb54.frozen 1
 have hl54 := hb54.lt
 refine hQf _ _ ⟨?_, ?_⟩
 ·intro z hz q hq
  simp only [List.mem_singleton] at hz
  subst hz
  injection hq with hq
  subst hq
  exact Reg.same_load1 rfl rfl ((hb44.kept ((Kept.refl w4 (fun _ => False)).alloc (.cells #[.bool (a.has m)] 4)) id).cell 1) (hc54 1) Tryz.underlying50 rfl
 clear hQf
 refine Reg.rest_walk' [7, 8] [] rfl (by kernel_rfl) ?_
 intro Qf hQf
 go_wp2_with fail
 first | refine hQf _ _ ?_ | skip
 try clear hQf
 refine Reg.rest_end ?_
 obtain ⟨hfin, h3b⟩ := h1H.out.add hmH.out hr1H.out hrNH.out hupH.out hgH.out hgsH.out hk2 hown2 hmv2 hw3H.out hb34 hk5 hown5
 go_wp2_with fail
 go_ret
 exact ⟨rfl, _, _, _, hfin, fun g cs hB => h3b g cs (hB.below hb1)⟩
theorem sub1_any (h : SubM w0 wr a g2 g4 g6 g7 gm #[v0, v1, v2, v3] vN vA vS all t us ws N) (hNF : IsNF w0 w0.heap.size (.agg #[v0, v1, v2, v3]) a) (ha : a.acc.length = a.n) (hm : m.length = a.n) (hr : wr.ownsRow w0.heap.size 3 1 r (setL m).length ((setL m).map (Value.int .i64))) (hrN : ∀ g, r.ownBlock = some g → N g)
  (hn : a.n ≤ 200000) (hl : all.length ≤ 60000) (hT : PowT wr) :
  Calls Tryz.prog 50 #[r, .pointer (some ⟨g6, 0, none⟩), .pointer (some ⟨g7, 0, none⟩), .pointer (some ⟨g4, 0, none⟩), .pointer (some ⟨g2, 0, none⟩)] wr (Ret fun v w' => v = .int .i64 (posL (meetL all m) m : Int) ∧ ∃ vA' vS' us', SubM w0 w' a g2 g4 g6 g7 gm #[v0, v1, v2, v3] vN vA' vS' (meetL all m) t us' ws N ∧ ∀ g cs, Blk wr g 3 cs → Blk w' g 3 cs) := by
 by_cases hmem : m ∈ all
 ·rw [meet_old hmem]
  refine Calls.ret (sub1_old h hm hr hn hT hmem) ?_
  rintro v w' ⟨rfl, hb⟩
  exact ⟨rfl, vA, vS, us, h.keep hb, fun g cs hB => hB.below hb⟩
 ·rw [meet_new hmem, pos_new hmem]
  exact sub1_new h hNF ha hm hr hrN hn hl hT hmem
end
end Go.Proofs.YtakpmdmjbgipiaaGreatDoor
namespace Go.Proofs.YtakpmdmjbgipiaaGreatDoor
open Go.RowKit
set_option maxHeartbeats 16000000
set_option maxRecDepth 100000
def rowsOf (a : NF) (all : List (List Bool)) (i : Nat) : List (List Nat) := (all.take i).map fun s => (List.range a.L).map fun x => posL all (a.after s x)
theorem pos_pre {S : Type} [DecidableEq S] {l k : List S} (h : l <+: k) {s : S} (hs : s ∈ l) : posL k s = posL l s := idxOf_prefix h hs
theorem rowsOf_ext {a : NF} {all all' : List (List Bool)} {i : Nat} (h : Exp a.L a.after a.st i all) (hp : all <+: all') : rowsOf a all' i = rowsOf a all i := by
 have hi := h.inv.le
 unfold rowsOf
 obtain ⟨t, rfl⟩ := hp
 rw [List.take_append_of_le_length hi]
 refine List.map_congr_left fun s hs => List.map_congr_left fun x hx => ?_
 obtain ⟨j, hj⟩ := List.mem_iff_getElem?.1 hs
 rw [List.getElem?_take] at hj
 split at hj
 ·exact pos_pre (List.prefix_append _ _) (h.inv.closed j s (by assumption) hj x (List.mem_range.1 hx))
 ·cases hj
theorem rowsOf_succ {a : NF} {all : List (List Bool)} {i : Nat} {s : List Bool} (hs : all[i]? = some s) : rowsOf a all (i + 1) = rowsOf a all i ++ [(List.range a.L).map fun x => posL all (a.after s x)] := by
 unfold rowsOf
 rw [take_snoc hs, List.map_append]
 rfl
theorem rowsOf_len {a : NF} {all : List (List Bool)} {i : Nat} (hi : i ≤ all.length) : (rowsOf a all i).length = i := by simp [rowsOf]; omega
section
variable {w0 wr w' : World} {a : NF} {g2 g4 g6 g7 gm : Nat} {cs : Array Value} {vN vA vS : Value} {all : List (List Bool)} {t : List (List Nat)} {us ws : List Value} {N : Nat → Prop}
theorem SubM.other (h : SubM w0 wr a g2 g4 g6 g7 gm cs vN vA vS all t us ws N) {gr : Nat} {c3 : Array Value} (hN : ∀ g, N g → g ≠ gr) (hr : Blk wr gr 3 c3) (hg : w0.heap.size ≤ gr) (hk : Kept wr w' (fun k => k = gr)) : SubM w0 w' a g2 g4 g6 g7 gm cs vN vA vS all t us ws N :=
 ⟨h.below.trans (hk.below h.below.size fun b hb e => by omega), h.b2.kept hk (h.b2.ne_ hr (by decide)), h.b4.kept hk (h.b4.ne_ hr (by decide)), h.b6.kept hk (h.b6.ne_ hr (by decide)), h.b7.kept hk (h.b7.ne_ hr (by decide)),
  h.map.kept hk (fun e => blk_map_ne hr h.map e.symm), own_ty hk h.sets (fun g cs e hB => by subst e; exact hB.ne_ hr (by decide) rfl), h.setR.keep hk (fun g cs hn e _ => hN g hn e) (fun _ _ x => x) (Nat.le_refl _),
  own_ty hk h.acc (fun g cs e hB => by subst e; exact hB.ne_ hr (by decide) rfl), own_ty hk h.nxt (fun g cs e hB => by subst e; exact hB.ne_ hr (by decide) rfl), h.nxtR.keep hk (fun g cs hn e _ => hN g hn e) (fun _ _ x => x) (Nat.le_refl _), h.sep, h.ge, h.len⟩
theorem SubM.rowAdd {row : List Nat} {gr c : Nat} {vN' : Value} {w2 : World} (h : SubM w0 wr a g2 g4 g6 g7 gm cs vN vA vS all t us ws N)
  (hr : wr.ownsRow w0.heap.size 3 1 (.slice (some ⟨gr, 0, none⟩) row.length c) row.length (row.map fun y : Nat => Value.int .i64 (y : Int)))
  (hk : Kept wr w2 (fun k => vN.ownBlock = some k)) (ho : w2.ownsRow w0.heap.size 22 1 vN' (t.length + 1) (ws ++ [.slice (some ⟨gr, 0, none⟩) row.length c])) (hmv : Moved wr vN vN') :
  SubM w0 (w2.setCell ⟨g4, 0, none⟩ vN') a g2 g4 g6 g7 gm cs vN' vA vS all (t ++ [row]) us (ws ++ [.slice (some ⟨gr, 0, none⟩) row.length c]) (fun _ => True) := by
 have hk2 := (Kept.refl w2 (fun k => k = g4)).setCell (p := ⟨g4, 0, none⟩) (fun _ => rfl) vN'
 have hs := h.below.size
 have n4 := h.b4.kept hk (own_blk_ne h.nxt h.b4 (by decide))
 have hall : Kept wr (w2.setCell ⟨g4, 0, none⟩ vN') (fun k => vN.ownBlock = some k ∨ k = g4) := (hk.mono fun _ _ e => .inl e).trans hk2 fun _ _ e => .inr e
 have hty : ∀ {e : TypeId}, e ≠ 22 → e ≠ 52 → ∀ g cs, (vN.ownBlock = some g ∨ g = g4) → ¬ Blk wr g e cs := by
  rintro e h1 h2 g cs (e1 | e1) hB
  ·exact own_blk_ne h.nxt hB (fun hh => h1 hh.symm) e1
  ·exact hB.ne_ h.b4 h2 e1
 have hS : wr.ownsRow w0.heap.size 22 1 vS all.length us := h.sets
 have hblk : ∀ {g : Nat} {e : TypeId} {cs : Array Value}, e ≠ 22 → e ≠ 52 → Blk wr g e cs → Blk (w2.setCell ⟨g4, 0, none⟩ vN') g e cs := fun h1 h2 hB => hB.kept hall fun hx => hty h1 h2 _ _ hx hB
 have hge := h.ge
 refine ⟨h.below.trans (hall.below hs ?_), hblk (by decide) (by decide) h.b2, ?_, hblk (by decide) (by decide) h.b6, hblk (by decide) (by decide) h.b7, ?_, ?_, ?_, own_ty hall h.acc (hty (by decide) (by decide)), ?_, ?_, ?_, h.ge, h.len⟩
 ·rintro b hb (e | e)
  ·have := own_base h.nxt e; omega
  ·omega
 ·exact n4.set_ 0 vN'
 ·exact h.map.kept hall (by
   rintro (e | e)
   ·exact own_map_ne h.nxt h.map e
   ·exact blk_map_ne h.b4 h.map e.symm)
 ·refine hall.ownsRow h.sets fun g hg e => ?_
  rcases e with e | e
  ·exact h.sep g hg e
  ·exact own_blk_ne h.sets h.b4 (by decide) (by rw [hg, e])
 ·exact h.setR.keep hall (fun g cs _ e => hty (by decide) (by decide) g cs e) (fun _ _ _ => trivial) (Nat.le_refl _)
 ·rw [List.length_append]
  exact own_ty hk2 ho (fun g cs e hB => by subst e; exact hB.ne_ n4 (by decide) rfl)
 ·rw [List.map_append]
  refine RowsI.snoc (h.nxtR.keep hall (fun g cs _ e => hty (by decide) (by decide) g cs e) (fun _ _ _ => trivial) (Nat.le_refl _)) ?_ (fun _ _ => trivial)
  have := own_ty hall hr (hty (by decide) (by decide))
  have e : (natL row).map (Value.int .i64) = row.map fun y : Nat => Value.int .i64 (y : Int) := by simp [natL]
  have el : (natL row).length = row.length := by simp [natL]
  rw [e, el]
  exact this
 ·intro g hg e
  rcases hmv with hh | ⟨g', hh, hlt⟩
  ·exact h.sep g hg (by rw [← hh]; exact e)
  ·rw [e] at hh
   injection hh with hh
   have := own_lt h.sets hg
   omega
theorem vsl_nat {w : World} {B : Nat} {A : Option Addr} {t : List (List Nat)} (h : VSl R1 w B A (t.map natL)) : VSl R1n w B A t := by
 refine ⟨by simpa using h.1, fun hn => ?_⟩
 obtain ⟨b, off, e, hb, hc⟩ := h.2 (by simpa using hn)
 exact ⟨b, off, e, hb, fun k d hd => hc k (natL d) (map_get hd)⟩
theorem SubM.fin {wF : World} (h : SubM w0 wr a g2 g4 g6 g7 gm cs vN vA vS all t us ws N) (hk : Kept wr wF (fun k => k = g4)) (hl : ∀ r ∈ t, r.length ≤ 4000000) (ht : t.length ≤ 4000000) (ha : all.length ≤ 4000000) :
  IsDF wF wF.heap.size (.agg #[vN, vA]) t (all.map a.has) ∧ Below w0.heap.size w0 wF := by
 have hge := h.ge
 have hN := own_ty hk h.nxt (fun g cs e hB => by subst e; exact hB.ne_ h.b4 (by decide) rfl)
 have hA := own_ty hk h.acc (fun g cs e hB => by subst e; exact hB.ne_ h.b4 (by decide) rfl)
 have hR := h.nxtR.keep (N' := N) hk (fun g cs _ e hB => by subst e; exact hB.ne_ h.b4 (by decide) rfl) (fun _ _ x => x) (Nat.le_refl _)
 obtain ⟨A1, c1, e1, h1⟩ := RowsI.read hR hN ht (Nat.le_refl _) (fun d hd => by
  obtain ⟨r, hr, rfl⟩ := List.mem_map.1 hd
  have := hl r hr
  simpa [natL] using this)
 obtain ⟨A2, c2, e2, h2⟩ := own_slB (B := wF.heap.size) hA (by simp) (Nat.le_refl _) (by omega)
 rw [List.length_map] at e1
 exact ⟨⟨A1, c1, A2, c2, by rw [e1, e2], vsl_nat h1, h2⟩, h.below.trans (hk.below h.below.size fun b hb e => by omega)⟩
end
end Go.Proofs.YtakpmdmjbgipiaaGreatDoor
namespace Go.Proofs.YtakpmdmjbgipiaaGreatDoor
open Go.RowKit
set_option maxHeartbeats 16000000
set_option maxRecDepth 100000
def scopeIn : Code → Code
 | .scope c => c
 | .seq a b => match scopeIn a with
  | .skip => scopeIn b
  | c => c
 | _ => .skip
def labelRest (f : Func) (l : Nat) : Code := match f.body with
 | some c => (findLabel (scopeIn c) l).getD .skip
 | none => .skip
def labelRest1 (f : Func) (l : Nat) : Code := match labelRest f l with
 | .seq .skip c => c
 | c => c
def set2 (w : World) (g : Nat) (v0 v1 : Value) : World := (w.setCell ⟨g, 0, none⟩ v0).setCell ⟨g, 1, none⟩ v1
theorem set2_facts {w : World} {g : Nat} {e : TypeId} {a0 a1 : Value} (h : Blk w g e #[a0, a1]) (v0 v1 : Value) : ∃ wF, set2 w g v0 v1 = wF ∧ Blk wF g e #[v0, v1] ∧ Kept w wF (fun k => k = g) :=
 ⟨_, rfl, (h.set_ 0 v0).set_ 1 v1, ((Kept.refl w (fun k => k = g)).setCell (p := ⟨g, 0, none⟩) (fun _ => rfl) _).setCell (p := ⟨g, 1, none⟩) (fun _ => rfl) _⟩
theorem pos_step {a : NF} {s : List Bool} {all : List (List Bool)} {x y : Nat} (h : y < x) : posL (rowL a.after s all (x + 1)) (a.after s y) = posL (rowL a.after s all x) (a.after s y) := by
 rw [rowL_succ]
 exact pos_pre (prefix_meetL _ _) (rowL_has s all h)
theorem rowL_len {S : Type} [DecidableEq S] {δ : S → Nat → S} (s : S) (l : List S) : ∀ k, (rowL δ s l k).length ≤ l.length + k
 | 0 => Nat.le_refl _
 | k + 1 => by
  rw [rowL_succ]
  have := rowL_len (δ := δ) s l k
  unfold meetL
  split
  ·omega
  ·rw [List.length_append, List.length_singleton]; omega
theorem exp_len {S : Type} [DecidableEq S] {L : Nat} {δ : S → Nat → S} {s0 : S} {i : Nat} {l : List S} (h : Exp L δ s0 i l) : l.length ≤ 1 + i * L := by
 induction h with
 | start => simp
 | row _ _ ih =>
  have := rowL_len (δ := δ) (by assumption) (by assumption) L
  rw [Nat.succ_mul]
  omega
theorem u_of (A : Act) (F : (Nat → Value) → Act) (h : A = F (fun n => A.tmps.getD n undef)) : ∃ u, A = F u := ⟨_, h⟩
structure SubI (w0 wr : World) (a : NF) (g2 g4 g6 g7 gm : Nat) (cs : Array Value) (i : Nat) (all : List (List Bool)) (vN vA vS : Value) (us ws : List Value) : Prop where
 mem : SubM w0 wr a g2 g4 g6 g7 gm cs vN vA vS all (rowsOf a all i) us ws (fun _ => True)
 exp : Exp a.L a.after a.st i all
theorem subs_pass {w0 wr : World} {a : NF} {g2 g4 g6 g7 gm i k : Nat} {v1 v2 v3 vN vA vS va : Value} {all : List (List Bool)} {us ws : List Value} (u : Nat → Value)
  (hI : SubI w0 wr a g2 g4 g6 g7 gm #[.int .i64 (a.L : Int), v1, v2, v3] i all vN vA vS us ws) (hNF : IsNF w0 w0.heap.size (.agg #[.int .i64 (a.L : Int), v1, v2, v3]) a) (hok : a.OK) (hn : a.n ≤ 200000) (hL : a.L ≤ 8) (hk : k ≤ 50000) (hik : i ≤ k) (hT : PowT w0)
  (hcat : ∀ m x, m.length = a.n → x < a.L → (a.cat (setL m) x).length ≤ 4000000)
  {Q : Exit → Act → World → Prop} (hN : Reg.NoQ Q)
  (hgo : ∀ (ac : Act) (w' : World) (all' : List (List Bool)) (vN vA vS : Value) (us ws : List Value), i < k → SubI w0 w' a g2 g4 g6 g7 gm #[.int .i64 (a.L : Int), v1, v2, v3] (i + 1) all' vN vA vS us ws → (∃ u : Nat → Value, ac = ⟨List.toArray ((va) :: (.int .i64 (k : Int)) :: (.pointer (some ⟨g2, 0, none⟩)) :: u 3 :: (.pointer (some ⟨g4, 0, none⟩)) :: (.bool false) :: (.pointer (some ⟨g6, 0, none⟩)) :: (.pointer (some ⟨g7, 0, none⟩)) :: (.func (.func 50) #[] #[.pointer (some ⟨g6, 0, none⟩), .pointer (some ⟨g7, 0, none⟩), .pointer (some ⟨g4, 0, none⟩), .pointer (some ⟨g2, 0, none⟩)]) :: (.int .i64 ((i + 1 : Nat) : Int)) :: u 10 :: u 11 :: u 12 :: u 13 :: u 14 :: u 15 :: u 16 :: u 17 :: u 18 :: u 19 :: u 20 :: u 21 :: u 22 :: u 23 :: u 24 :: u 25 :: u 26 :: u 27 :: u 28 :: u 29 :: u 30 :: u 31 :: u 32 :: u 33 :: u 34 :: u 35 :: u 36 :: u 37 :: u 38 :: u 39 :: u 40 :: u 41 :: u 42 :: u 43 :: u 44 :: u 45 :: u 46 :: u 47 :: u 48 :: u 49 :: u 50 :: u 51 :: u 52 :: u 53 :: u 54 :: u 55 :: u 56 :: u 57 :: u 58 :: u 59 :: u 60 :: u 61 :: u 62 :: []), []⟩) → Q (.goto 0) ac w')
  (hret : ∀ (ac : Act) (w' : World) (vN vA : Value) (b : Bool), Blk w' g4 52 #[vN, vA] → Below w0.heap.size w0 w' → IsDF w' w'.heap.size (.agg #[vN, vA]) (rowsOf a all i) (all.map a.has) → b = decide (all.length ≤ k) → (i < all.length → k < all.length) → Exp a.L a.after a.st i all → (∃ u : Nat → Value, ac = ⟨List.toArray ((va) :: (.int .i64 (k : Int)) :: (.pointer (some ⟨g2, 0, none⟩)) :: u 3 :: (.pointer (some ⟨g4, 0, none⟩)) :: (.bool b) :: (.pointer (some ⟨g6, 0, none⟩)) :: (.pointer (some ⟨g7, 0, none⟩)) :: (.func (.func 50) #[] #[.pointer (some ⟨g6, 0, none⟩), .pointer (some ⟨g7, 0, none⟩), .pointer (some ⟨g4, 0, none⟩), .pointer (some ⟨g2, 0, none⟩)]) :: u 9 :: u 10 :: u 11 :: u 12 :: u 13 :: u 14 :: u 15 :: u 16 :: u 17 :: u 18 :: u 19 :: u 20 :: u 21 :: u 22 :: u 23 :: u 24 :: u 25 :: u 26 :: u 27 :: u 28 :: u 29 :: u 30 :: u 31 :: u 32 :: u 33 :: u 34 :: u 35 :: u 36 :: u 37 :: u 38 :: u 39 :: u 40 :: u 41 :: u 42 :: u 43 :: u 44 :: u 45 :: u 46 :: u 47 :: u 48 :: u 49 :: u 50 :: u 51 :: u 52 :: u 53 :: u 54 :: u 55 :: u 56 :: u 57 :: u 58 :: u 59 :: u 60 :: u 61 :: u 62 :: []), []⟩) → Q .ret ac w') :
  (labelRest1 Tryz.f25 0).wp Tryz.prog Q ⟨List.toArray ((va) :: (.int .i64 (k : Int)) :: (.pointer (some ⟨g2, 0, none⟩)) :: u 3 :: (.pointer (some ⟨g4, 0, none⟩)) :: (.bool false) :: (.pointer (some ⟨g6, 0, none⟩)) :: (.pointer (some ⟨g7, 0, none⟩)) :: (.func (.func 50) #[] #[.pointer (some ⟨g6, 0, none⟩), .pointer (some ⟨g7, 0, none⟩), .pointer (some ⟨g4, 0, none⟩), .pointer (some ⟨g2, 0, none⟩)]) :: (.int .i64 (i : Int)) :: u 10 :: u 11 :: u 12 :: u 13 :: u 14 :: u 15 :: u 16 :: u 17 :: u 18 :: u 19 :: u 20 :: u 21 :: u 22 :: u 23 :: u 24 :: u 25 :: u 26 :: u 27 :: u 28 :: u 29 :: u 30 :: u 31 :: u 32 :: u 33 :: u 34 :: u 35 :: u 36 :: u 37 :: u 38 :: u 39 :: u 40 :: u 41 :: u 42 :: u 43 :: u 44 :: u 45 :: u 46 :: u 47 :: u 48 :: u 49 :: u 50 :: u 51 :: u 52 :: u 53 :: u 54 :: u 55 :: u 56 :: u 57 :: u 58 :: u 59 :: u 60 :: u 61 :: u 62 :: []), []⟩ wr := by
 conv => arg 2; whnf
 have hc2 := hI.mem.b2.cell
 have hc4 := hI.mem.b4.cell
 have hc7 := hI.mem.b7.cell
 obtain ⟨AS, cS, rfl⟩ := slice_of_own hI.mem.sets
 have hIH := hide hI
 have hNFH := hide hNF
 have hle := hI.exp.inv.le
 clear hI hNF
 by_cases hlt : i < all.length
 ·by_cases hlk : all.length ≤ k
  ·obtain ⟨s, hs⟩ := get_lt hlt
   obtain ⟨gr, w1, hmk, hbl, hb1, hgr⟩ := mk_ints wr a.L (by omega)
   rw [rangeC_rep] at hbl
   have hsH := hide hs
   have hs1 := hb1.size
   have hs0 := hIH.out.mem.below.size
   have hM0 : Hid (SubM w0 w1 a g2 g4 g6 g7 gm #[.int .i64 (a.L : Int), v1, v2, v3] vN vA (.slice AS all.length cS) (rowL a.after s all 0) (rowsOf a all i) us ws (fun g => g ≠ gr)) :=
    (hIH.out.mem.weak fun g hg _ => by omega).keep hb1
   have hb0 : Hid (Blk w1 gr 3 (rangeC a.L fun y => if y < 0 then Value.int .i64 (posL (rowL a.after s all 0) (a.after s y) : Int) else .int .i64 0)) := by
    show Blk _ _ _ _
    rw [rangeC_congr (g := fun _ => Value.int .i64 0) (fun y _ => by rw [if_neg (by omega)])]
    exact hbl
   clear hs hbl hb1
   go_wp2_with fail
   go_loopw [34] (fun ii wr2 => ∃ (x : Nat), ii = .int .i64 (x : Int) ∧ x ≤ a.L ∧ Hid (∃ vA vS us, SubM w0 wr2 a g2 g4 g6 g7 gm #[.int .i64 (a.L : Int), v1, v2, v3] vN vA vS (rowL a.after s all x) (rowsOf a all i) us ws (fun g => g ≠ gr)) ∧ Hid (Blk wr2 gr 3 (rangeC a.L fun y => if y < x then Value.int .i64 (posL (rowL a.after s all x) (a.after s y) : Int) else .int .i64 0))) (fun ii _ => a.L - (intOf ii).toNat)
   case atStart => exact ⟨0, rfl, Nat.zero_le _, ⟨_, _, _, hM0.out⟩, hb0⟩
   case round =>
    obtain ⟨x, rfl, hx, hM, hB⟩ := hrel
    obtain ⟨vA2, vS2, us2, hM2⟩ := hM.out
    have hMH := hide hM2
    by_cases hxL : x < a.L
    ·have hpre := rowL_pre (δ := a.after) s all x
     have hsx := prefix_get hpre hsH.out
     have hslen := hM2.len s (List.mem_of_getElem? hsx)
     obtain ⟨uv, huv, hou, -⟩ := F2.at hM2.setR (map_get (f := setL) hsx)
     obtain ⟨Au, cu, rfl, hSu⟩ := own_slI hou rfl (Nat.le_refl _) (by have := setL_len s; omega)
     obtain ⟨gS, capS, rfl, hcS⟩ := own_get hM2.sets huv
     have hc2r := hM2.b2.cell
     have hc7r := hM2.b7.cell
     have hsr := hM2.below.size
     have hBx := hB.out
     have hil : i < (rowL a.after s all x).length := lt_of_get hsx
     have hal : (rowL a.after s all x).length ≤ 60000 := by
      have := rowL_len (δ := a.after) s all x
      omega
     have hstep : ∀ wx : World, Below wr.heap.size wr wx → Calls Tryz.prog 54 #[.agg #[.int .i64 (a.L : Int), v1, v2, v3], .slice Au (setL s).length cu, .int .i64 (x : Int)] wx (Ret fun r w' => w'.ownsRow wx.heap.size 3 1 r (setL (a.after s x)).length ((setL (a.after s x)).map (Value.int .i64)) ∧ Below wx.heap.size wx w') := fun wx hb => by
      have h0x := hMH.out.below.trans (hb.mono hsr)
      exact step_any (hNFH.out.keep (fun p hp => h0x.cell hp) h0x.size) hok hslen (hSu.keep (w' := wx) (fun p hp => hb.cell hp) hb.size) (Nat.le_refl _) hxL (hcat s x hslen hxL)
     have hsub : ∀ (wx : World) (r : Value), Below wr.heap.size wr wx → wx.ownsRow w0.heap.size 3 1 r (setL (a.after s x)).length ((setL (a.after s x)).map (Value.int .i64)) → (∀ g, r.ownBlock = some g → g ≠ gr) → Calls Tryz.prog 50 #[r, .pointer (some ⟨g6, 0, none⟩), .pointer (some ⟨g7, 0, none⟩), .pointer (some ⟨g4, 0, none⟩), .pointer (some ⟨g2, 0, none⟩)] wx (Ret fun v w' => v = .int .i64 (posL (rowL a.after s all (x + 1)) (a.after s x) : Int) ∧ ∃ vA' vS' us', SubM w0 w' a g2 g4 g6 g7 gm #[.int .i64 (a.L : Int), v1, v2, v3] vN vA' vS' (rowL a.after s all (x + 1)) (rowsOf a all i) us' ws (fun g => g ≠ gr) ∧ ∀ g cs, Blk wx g 3 cs → Blk w' g 3 cs) := fun wx r hb hr hrN => by
      have h0x := hMH.out.below.trans (hb.mono hsr)
      rw [rowL_succ]
      exact sub1_any (hMH.out.keep hb) hNFH.out hok.acc (a.after_len _ _) hr hrN hn hal (hT.below h0x)
     obtain ⟨nS, hnS⟩ : ∃ n, n = (rowL a.after s all x).length := ⟨_, rfl⟩
     rw [← hnS] at hc7r hil
     clear hM hM2 hpre hsx hou huv hSu hB hal hmk hc2 hc4 hc7 hnS
     go_wp2_with fail
     refine Reg.region_plain [0, 0, 0, 0, 0, 0, 48, 112, 0, 504, 1020, 2047, 4095] (by kernel_rfl) (by repeat (first | exact hN | refine Reg.NoQ.then ?_ | refine Reg.NoQ.inBlock ?_)) ?_
     go_wp2_with fail
     refine Calls.ret (hstep _ (drewB wr)) ?_
     rintro r w2 ⟨hr2, hb2⟩
     have hbr2 : Below wr.heap.size wr w2 := (drewB wr).trans hb2
     have hgrl := hBx.lt
     have hr2w : w2.ownsRow w0.heap.size 3 1 r (setL (a.after s x)).length ((setL (a.after s x)).map (Value.int .i64)) := own_mono hr2 (by show _ ≤ wr.heap.size; omega)
     have hrN2 : ∀ g, r.ownBlock = some g → g ≠ gr := fun g hg e => by
      have := own_base hr2 hg
      have e2 : wr.drew.heap.size = wr.heap.size := rfl
      omega
     have hB2 := hBx.below hbr2
     clear hr2 hb2 hc2r hc7r hcS
     go_wp2_with fail
     refine Calls.ret (hsub w2 r hbr2 hr2w hrN2) ?_
     rintro v w3 ⟨rfl, vA3, vS3, us3, hM3, hB3⟩
     have hBw3 := hB3 _ _ hB2
     have hcr3 : w3.cell? ⟨gr, x, none⟩ = some (.int .i64 0) := by rw [hBw3.cell, rangeC_get _ hxL, if_neg (by omega)]
     have hfr3 := hBw3.frozen x
     have hlr3 := hBw3.lt
     have hk3 := (Kept.refl w3 (fun k => k = gr)).setCell (p := ⟨gr, x, none⟩) (fun _ => rfl) (.int .i64 (posL (rowL a.after s all (x + 1)) (a.after s x) : Int))
     have hM4 := hM3.other (fun _ h => h) hBw3 (by omega) hk3
     have hB4 : Blk (w3.setCell ⟨gr, x, none⟩ (.int .i64 (posL (rowL a.after s all (x + 1)) (a.after s x) : Int))) gr 3 (rangeC a.L fun y => if y < x + 1 then Value.int .i64 (posL (rowL a.after s all (x + 1)) (a.after s y) : Int) else .int .i64 0) := by
      have h1 := hBw3.set_ x (.int .i64 (posL (rowL a.after s all (x + 1)) (a.after s x) : Int))
      rw [rangeC_set] at h1
      rw [rangeC_congr (g := fun y => if y = x then Value.int .i64 (posL (rowL a.after s all (x + 1)) (a.after s x) : Int) else if y < x then .int .i64 (posL (rowL a.after s all x) (a.after s y) : Int) else .int .i64 0) (fun y _ => by
       by_cases e : y = x
       ·subst e; simp
       ·by_cases e2 : y < x
        ·rw [if_pos (by omega), if_neg e, if_pos e2, pos_step e2]
        ·rw [if_neg (by omega), if_neg e, if_neg e2])]
      exact h1
     have hM4H := hide hM4
     have hB4H := hide hB4
     clear hM3 hB3 hBw3 hM4 hB4 hk3
     go_wp2_with fail
     exact ⟨⟨x + 1, by go_num, by omega, ⟨_, _, _, hM4H.out⟩, hB4H⟩, by simp [intOf]; omega⟩
    ·obtain rfl : x = a.L := by omega
     obtain ⟨AN, cN, rfl⟩ := slice_of_own hM2.nxt
     have hc4r := hM2.b4.cell
     have hf4r := hM2.b4.frozen 0
     have hl4r := hM2.b4.lt
     have hgr0 : w0.heap.size ≤ gr := by omega
     obtain ⟨row, hrow⟩ : ∃ row, row = (List.range a.L).map fun y => posL (rowL a.after s all a.L) (a.after s y) := ⟨_, rfl⟩
     have hrl : row.length = a.L := by rw [hrow]; simp
     have hownr : wr.ownsRow w0.heap.size 3 1 (.slice (some ⟨gr, 0, none⟩) row.length row.length) row.length (row.map fun y : Nat => Value.int .i64 (y : Int)) := by
      have := own_of_blk hB.out hgr0 (rangeC_size _ _) (by omega)
      rw [hrl]
      have e : (rangeC a.L fun y => if y < a.L then Value.int .i64 (posL (rowL a.after s all a.L) (a.after s y) : Int) else .int .i64 0).toList = row.map fun y : Nat => Value.int .i64 (y : Int) := by
       rw [hrow]
       simp only [rangeC, List.map_map]
       exact List.map_congr_left fun y hy => by rw [if_pos (List.mem_range.1 hy)]; rfl
      rw [e] at this
      exact this
     have htl := rowsOf_len (a := a) hle
     have hrowH := hide hrow
     have hrlH := hide hrl
     have hownrH := hide hownr
     have hnx := hM2.nxt
     rw [htl] at hnx hc4r
     have htlH := hide htl
     have hbs := hM2.below.size
     clear hM hM2 hB hrow hrl hownr hmk hc2 hc4 hc7 htl
     go_wp2_with (at_builtin; refine wpList_app_new row22 rfl _ _ rfl w0.heap.size _ i _ rfl hnx [.slice (some ⟨gr, 0, none⟩) a.L a.L] 1 rfl rfl (by simp [Value.oneCell']) (by omega) hbs ?_; intro g cap w4 hown4 hk4 hmv4 hg4; have hb44 := hMH.out.b4.kept hk4 (own_blk_ne hnx hMH.out.b4 (by decide)); have hc44 := hb44.cell; have hf44 := hb44.frozen 0; have hl44 := hb44.lt)
     have hfin := hide (show SubI w0 (w4.setCell ⟨g4, 0, none⟩ (.slice (some ⟨g, 0, none⟩) (i + 1) cap)) a g2 g4 g6 g7 gm #[.int .i64 (a.L : Int), v1, v2, v3] (i + 1) (rowL a.after s all a.L) (.slice (some ⟨g, 0, none⟩) (i + 1) cap) vA2 vS2 us2 (ws ++ [.slice (some ⟨gr, 0, none⟩) row.length row.length]) from by
      have hE : Exp a.L a.after a.st (i + 1) (rowL a.after s all a.L) := .row hIH.out.exp hsH.out
      refine ⟨?_, hE⟩
      rw [rowsOf_succ (prefix_get (rowL_pre s all a.L) hsH.out), rowsOf_ext hIH.out.exp (rowL_pre s all a.L), ← hrowH.out]
      refine hMH.out.rowAdd hownrH.out ?_ ?_ ?_
      ·rw [htlH.out]; exact hk4
      ·rw [htlH.out, hrlH.out]; exact hown4
      ·rw [htlH.out]; exact hmv4)
     clear hown4 hk4 hmv4 hb44 hc44 hf44 hl44 hc4r hf4r hl4r
     go_wp2_with fail
     try go_step3
     refine hgo _ _ _ _ _ _ _ _ (by omega) hfin.out ?_
     refine u_of _ _ ?_
     rfl
  ·have hall : all.length ≤ 3000000 := by have := exp_len hIH.out.exp; have : i * a.L ≤ 50000 * 8 := Nat.mul_le_mul (by omega) hL; omega
   obtain ⟨AN, cN, rfl⟩ := slice_of_own hIH.out.mem.nxt
   obtain ⟨AA, cA, rfl⟩ := slice_of_own hIH.out.mem.acc
   have hb4 := hIH.out.mem.b4
   have hb7 := hIH.out.mem.b7
   have hf4 := hb4.frozen
   have hl4 := hb4.lt
   obtain ⟨wF, hwF, hBF, hKF⟩ := set2_facts hb4 (.slice AN (rowsOf a all i).length cN) (.slice AA all.length cA)
   have hc7F := (hb7.kept hKF (hb7.ne_ hb4 (by decide))).cell
   have hfin := hide (hIH.out.mem.fin hKF (fun r hr => by
    unfold rowsOf at hr
    obtain ⟨s, _, rfl⟩ := List.mem_map.1 hr
    simp; omega) (by rw [rowsOf_len hle]; have := hall; omega) (by have := hall; omega))
   have hBFH := hide hBF
   have hwH := hide hwF
   clear hb4 hb7 hBF hKF hwF
   go_wp2_with fail
   refine Reg.region_cutI [0, 0, 2, 0, 14, 1, 63] [0, 1, 2, 3, 4, 5, 6] (by kernel_rfl) (by repeat (first | exact hN | refine Reg.NoQ.then ?_ | refine Reg.NoQ.inBlock ?_)) ?_
   refine Reg.wI [0, 1, 2, 3, 4] [5, 6] rfl fun Qf hQf => ?_
   go_wp2_with fail
   try rw [List.filterMap_nil]
   go_wp2_with fail
   first | refine hQf _ _ ⟨rfl, ?_⟩ | refine ⟨rfl, ?_⟩
   try clear hQf
   have hltH := hide hlt
   have hlkH := hide hlk
   clear hlt hlk hall
   refine Reg.aI 5 [6] [1] rfl fun Qf hQf => ?_
   simp only [gT, gS, gZ]
   go_wp2_with fail
   first | refine hQf _ _ ⟨?_, ?_⟩ | refine ⟨?_, ?_⟩
   ·intro z hz q hq
    simp only [List.mem_singleton] at hz
    subst hz
    injection hq with hq
    subst hq
    exact Reg.same_load1 rfl rfl (hc7 0) ((congrArg (fun w : World => w.drew.cell? ⟨g7, 0, none⟩) hwH.out).trans (hc7F 0)) Tryz.underlying49 rfl
   try clear hQf
   refine Reg.wI [6] [] rfl fun Qf hQf => ?_
   go_wp2_with fail
   try rw [List.filterMap_nil]
   go_wp2_with fail
   first | refine hQf _ _ ⟨rfl, ?_⟩ | refine ⟨rfl, ?_⟩
   try clear hQf
   refine Reg.restI_end ?_
   go_wp2_with fail
   have hbb : decide (all.length ≤ k) = false := decide_eq_false hlkH.out
   change Q .ret _ (set2 wr g4 (.slice AN (rowsOf a all i).length cN) (.slice AA all.length cA)).drew
   rw [hwH.out]
   refine hret _ _ (.slice AN (rowsOf a all i).length cN) (.slice AA all.length cA) false hBFH.out (hfin.out.2.trans ((drewB wF).mono hfin.out.2.size)) hfin.out.1 hbb.symm (fun _ => Nat.lt_of_not_le hlkH.out) hIH.out.exp ?_
   refine u_of _ _ ?_
   rfl
 ·have hall : all.length ≤ 3000000 := by have := exp_len hIH.out.exp; have : i * a.L ≤ 50000 * 8 := Nat.mul_le_mul (by omega) hL; omega
  by_cases hlk : all.length ≤ k
  ·obtain ⟨AN, cN, rfl⟩ := slice_of_own hIH.out.mem.nxt
   obtain ⟨AA, cA, rfl⟩ := slice_of_own hIH.out.mem.acc
   have hb4 := hIH.out.mem.b4
   have hb7 := hIH.out.mem.b7
   have hf4 := hb4.frozen
   have hl4 := hb4.lt
   obtain ⟨wF, hwF, hBF, hKF⟩ := set2_facts hb4 (.slice AN (rowsOf a all i).length cN) (.slice AA all.length cA)
   have hc7F := (hb7.kept hKF (hb7.ne_ hb4 (by decide))).cell
   have hfin := hide (hIH.out.mem.fin hKF (fun r hr => by
    unfold rowsOf at hr
    obtain ⟨s, _, rfl⟩ := List.mem_map.1 hr
    simp; omega) (by rw [rowsOf_len hle]; have := hall; omega) (by have := hall; omega))
   have hBFH := hide hBF
   have hwH := hide hwF
   clear hb4 hb7 hBF hKF hwF
   go_wp2_with fail
   refine Reg.region_cutI [0, 0, 2, 0, 14, 1, 63] [0, 1, 2, 3, 4, 5, 6] (by kernel_rfl) (by repeat (first | exact hN | refine Reg.NoQ.then ?_ | refine Reg.NoQ.inBlock ?_)) ?_
   refine Reg.wI [0, 1, 2, 3, 4] [5, 6] rfl fun Qf hQf => ?_
   go_wp2_with fail
   try rw [List.filterMap_nil]
   go_wp2_with fail
   first | refine hQf _ _ ⟨rfl, ?_⟩ | refine ⟨rfl, ?_⟩
   try clear hQf
   have hltH := hide hlt
   have hlkH := hide hlk
   clear hlt hlk hall
   refine Reg.aI 5 [6] [1] rfl fun Qf hQf => ?_
   simp only [gT, gS, gZ]
   go_wp2_with fail
   first | refine hQf _ _ ⟨?_, ?_⟩ | refine ⟨?_, ?_⟩
   ·intro z hz q hq
    simp only [List.mem_singleton] at hz
    subst hz
    injection hq with hq
    subst hq
    exact Reg.same_load1 rfl rfl (hc7 0) ((congrArg (fun w : World => w.drew.cell? ⟨g7, 0, none⟩) hwH.out).trans (hc7F 0)) Tryz.underlying49 rfl
   try clear hQf
   refine Reg.wI [6] [] rfl fun Qf hQf => ?_
   go_wp2_with fail
   try rw [List.filterMap_nil]
   go_wp2_with fail
   first | refine hQf _ _ ⟨rfl, ?_⟩ | refine ⟨rfl, ?_⟩
   try clear hQf
   refine Reg.restI_end ?_
   go_wp2_with fail
   have hbb : decide (all.length ≤ k) = true := decide_eq_true hlkH.out
   change Q .ret _ (set2 wr g4 (.slice AN (rowsOf a all i).length cN) (.slice AA all.length cA)).drew
   rw [hwH.out]
   refine hret _ _ (.slice AN (rowsOf a all i).length cN) (.slice AA all.length cA) true hBFH.out (hfin.out.2.trans ((drewB wF).mono hfin.out.2.size)) hfin.out.1 hbb.symm (fun h => absurd h hltH.out) hIH.out.exp ?_
   refine u_of _ _ ?_
   rfl
  ·obtain ⟨AN, cN, rfl⟩ := slice_of_own hIH.out.mem.nxt
   obtain ⟨AA, cA, rfl⟩ := slice_of_own hIH.out.mem.acc
   have hb4 := hIH.out.mem.b4
   have hb7 := hIH.out.mem.b7
   have hf4 := hb4.frozen
   have hl4 := hb4.lt
   obtain ⟨wF, hwF, hBF, hKF⟩ := set2_facts hb4 (.slice AN (rowsOf a all i).length cN) (.slice AA all.length cA)
   have hc7F := (hb7.kept hKF (hb7.ne_ hb4 (by decide))).cell
   have hfin := hide (hIH.out.mem.fin hKF (fun r hr => by
    unfold rowsOf at hr
    obtain ⟨s, _, rfl⟩ := List.mem_map.1 hr
    simp; omega) (by rw [rowsOf_len hle]; have := hall; omega) (by have := hall; omega))
   have hBFH := hide hBF
   have hwH := hide hwF
   clear hb4 hb7 hBF hKF hwF
   go_wp2_with fail
   refine Reg.region_cutI [0, 0, 2, 0, 14, 1, 63] [0, 1, 2, 3, 4, 5, 6] (by kernel_rfl) (by repeat (first | exact hN | refine Reg.NoQ.then ?_ | refine Reg.NoQ.inBlock ?_)) ?_
   refine Reg.wI [0, 1, 2, 3, 4] [5, 6] rfl fun Qf hQf => ?_
   go_wp2_with fail
   try rw [List.filterMap_nil]
   go_wp2_with fail
   first | refine hQf _ _ ⟨rfl, ?_⟩ | refine ⟨rfl, ?_⟩
   try clear hQf
   have hltH := hide hlt
   have hlkH := hide hlk
   clear hlt hlk hall
   refine Reg.aI 5 [6] [1] rfl fun Qf hQf => ?_
   simp only [gT, gS, gZ]
   go_wp2_with fail
   first | refine hQf _ _ ⟨?_, ?_⟩ | refine ⟨?_, ?_⟩
   ·intro z hz q hq
    simp only [List.mem_singleton] at hz
    subst hz
    injection hq with hq
    subst hq
    exact Reg.same_load1 rfl rfl (hc7 0) ((congrArg (fun w : World => w.drew.cell? ⟨g7, 0, none⟩) hwH.out).trans (hc7F 0)) Tryz.underlying49 rfl
   try clear hQf
   refine Reg.wI [6] [] rfl fun Qf hQf => ?_
   go_wp2_with fail
   try rw [List.filterMap_nil]
   go_wp2_with fail
   first | refine hQf _ _ ⟨rfl, ?_⟩ | refine ⟨rfl, ?_⟩
   try clear hQf
   refine Reg.restI_end ?_
   go_wp2_with fail
   have hbb : decide (all.length ≤ k) = false := decide_eq_false hlkH.out
   change Q .ret _ (set2 wr g4 (.slice AN (rowsOf a all i).length cN) (.slice AA all.length cA)).drew
   rw [hwH.out]
   refine hret _ _ (.slice AN (rowsOf a all i).length cN) (.slice AA all.length cA) false hBFH.out (hfin.out.2.trans ((drewB wF).mono hfin.out.2.size)) hfin.out.1 hbb.symm (fun h => absurd h hltH.out) hIH.out.exp ?_
   refine u_of _ _ ?_
   rfl
end Go.Proofs.YtakpmdmjbgipiaaGreatDoor
namespace Go.Proofs.YtakpmdmjbgipiaaGreatDoor
open Go.RowKit
set_option maxHeartbeats 16000000
set_option maxRecDepth 100000
abbrev sn0 : Value := .slice none 0 0
theorem mk_map (t : TypeId) (w : World) : ∃ gm w1, (Instr.makeMap t none).run Tryz.prog w = .ok (.map (some gm)) w1 ∧ IdxMap w1 gm [] ∧ Below w.heap.size w w1 ∧ w.heap.size ≤ gm :=
 ⟨_, _, run_makeMap t w, IdxMap.made w, (Below.refl _ _).alloc (Nat.le_refl _) _, Nat.le_refl _⟩
theorem subs_mem (w : World) (a : NF) (cs : Array Value) : ∃ g2 g4 g6 g7 gm w1 w2 w3 w4 w5 w6, g2 = w.heap.size ∧ g4 = w1.heap.size ∧ g6 = w3.heap.size ∧ g7 = w5.heap.size ∧ w.alloc (.cells cs 56) = w1 ∧ w1.alloc (.cells #[sn0, sn0] 52) = w2 ∧ (Instr.makeMap 96 none).run Tryz.prog w2 = .ok (.map (some gm)) w3 ∧
  w3.alloc (.cells #[.map none] 96) = w4 ∧ Blk w4 g6 96 #[.map none] ∧ w4.setCell ⟨g6, 0, none⟩ (.map (some gm)) = w5 ∧ w5.alloc (.cells #[sn0] 49) = w6 ∧
  ∀ wx, Below w6.heap.size w6 wx → SubM w wx a g2 g4 g6 g7 gm cs sn0 sn0 sn0 [] [] [] [] (fun _ => True) := by
 obtain ⟨w1, h1, hb1, hB1, hk1⟩ := box_blk w cs 56
 obtain ⟨w2, h2, hb2, hB2, hk2⟩ := box_blk w1 #[sn0, sn0] 52
 obtain ⟨gm, w3, h3, hM3, hb3, hgm⟩ := mk_map 96 w2
 obtain ⟨w4, h4, hb4, hB4, hk4⟩ := box_blk w3 #[.map none] 96
 obtain ⟨w5, h5⟩ : ∃ w5, w4.setCell ⟨w3.heap.size, 0, none⟩ (.map (some gm)) = w5 := ⟨_, rfl⟩
 have hk5 : Kept w4 w5 (fun k => k = w3.heap.size) := by rw [← h5]; exact (Kept.refl w4 (fun k => k = w3.heap.size)).setCell (p := ⟨w3.heap.size, 0, none⟩) (fun _ => rfl) _
 have hB5 : Blk w5 w3.heap.size 96 #[.map (some gm)] := by rw [← h5]; exact hB4.set_ 0 _
 obtain ⟨w6, h6, hb6, hB6, hk6⟩ := box_blk w5 #[sn0] 49
 refine ⟨_, _, _, _, gm, w1, w2, w3, w4, w5, w6, rfl, rfl, rfl, rfl, h1, h2, h3, h4, hB4, h5, h6, fun wx hb => ?_⟩
 have hs1 := hb1.size
 have hs2 := hb2.size
 have hs3 := hb3.size
 have hs4 := hb4.size
 have hs5 := hk5.size
 have hs6 := hb6.size
 have l1 := hB1.lt
 have l2 := hB2.lt
 have l3 := hM3.lt
 have b5 : Below w3.heap.size w4 w5 := hk5.below hs4 fun b hb e => by omega
 have b36 : Below w3.heap.size w3 w6 := hb4.trans (b5.trans (hb6.mono (by omega)))
 have b3 : Below w3.heap.size w3 wx := b36.trans (hb.mono (by omega))
 have b02 : Below w.heap.size w w2 := hb1.trans (hb2.mono hs1)
 have b03 : Below w.heap.size w w3 := b02.trans (hb3.mono (by omega))
 refine ⟨b03.trans (b3.mono (by omega)), ((hB1.below hb2).below hb3).below b3, (hB2.below hb3).below b3, (hB5.below hb6).below hb, hB6.below hb, hM3.keep (b3.block _ l3), own_nil, .nil, own_nil, own_nil, .nil, by simp [Value.ownBlock], ⟨Nat.le_refl _, hs1, by omega, by omega, by omega⟩, by simp⟩
theorem start_set {a : NF} (hok : a.OK) : sortU a.start = setL a.st := by
 refine sortU_set fun x => ?_
 constructor
 ·intro hx
  have := hok.start x hx
  rw [inN_iff] at this
  obtain ⟨q, rfl⟩ := Int.eq_ofNat_of_zero_le this.1
  refine ⟨q, rfl, ?_⟩
  unfold NF.st
  rw [marksM_get (by omega)]
  simp [hx]
 ·rintro ⟨q, rfl, h⟩
  have hq : q < a.n := by have := lt_of_get h; rwa [a.st_len] at this
  unfold NF.st at h
  rw [marksM_get hq] at h
  simpa using h
def SubsRet (w : World) (a : NF) (k : Nat) (v : Value) (w' : World) : Prop :=
 Below w.heap.size w w' ∧ ∃ d, (∃ t ac, IsDF w' w'.heap.size d t ac) ∧ ((a.Large k ∧ v = .tuple #[d, .bool false]) ∨ (∃ all, Disc a.L a.after a.st all ∧ all.length ≤ k ∧ IsDF w' w'.heap.size d (rowsOf a all all.length) (all.map a.has) ∧ v = .tuple #[d, .bool true]))
theorem NoQ_jump {l : Nat} {J : Act → World → Prop} {Q : Exit → Act → World → Prop} (h : Reg.NoQ Q) : Reg.NoQ (Exit.jump l J Q) := ⟨fun c a w x => h.1 c a w x, fun a w x => h.2 a w x⟩
theorem subs_end {w w' : World} {a : NF} {g2 g4 g6 g7 k i : Nat} {vN vA va : Value} {b : Bool} {all : List (List Bool)} (u : Nat → Value) (hB : Blk w' g4 52 #[vN, vA]) (hb : Below w.heap.size w w') (hD : IsDF w' w'.heap.size (.agg #[vN, vA]) (rowsOf a all i) (all.map a.has)) (hbe : b = decide (all.length ≤ k)) (hex : i < all.length → k < all.length) (hE : Exp a.L a.after a.st i all) :
  bodyPost Tryz.prog Tryz.f25 (Ret fun r w' => SubsRet w a k r w') .ret ⟨List.toArray ((va) :: (.int .i64 (k : Int)) :: (.pointer (some ⟨g2, 0, none⟩)) :: u 3 :: (.pointer (some ⟨g4, 0, none⟩)) :: (.bool b) :: (.pointer (some ⟨g6, 0, none⟩)) :: (.pointer (some ⟨g7, 0, none⟩)) :: (.func (.func 50) #[] #[.pointer (some ⟨g6, 0, none⟩), .pointer (some ⟨g7, 0, none⟩), .pointer (some ⟨g4, 0, none⟩), .pointer (some ⟨g2, 0, none⟩)]) :: u 9 :: u 10 :: u 11 :: u 12 :: u 13 :: u 14 :: u 15 :: u 16 :: u 17 :: u 18 :: u 19 :: u 20 :: u 21 :: u 22 :: u 23 :: u 24 :: u 25 :: u 26 :: u 27 :: u 28 :: u 29 :: u 30 :: u 31 :: u 32 :: u 33 :: u 34 :: u 35 :: u 36 :: u 37 :: u 38 :: u 39 :: u 40 :: u 41 :: u 42 :: u 43 :: u 44 :: u 45 :: u 46 :: u 47 :: u 48 :: u 49 :: u 50 :: u 51 :: u 52 :: u 53 :: u 54 :: u 55 :: u 56 :: u 57 :: u 58 :: u 59 :: u 60 :: u 61 :: u 62 :: []), []⟩ w' := by
 have hc := hB.cell
 refine bodyPost_ret (v := .tuple #[.agg #[vN, vA], .bool b]) (by simp [results, Tryz.results25, go_sem, hc]) rfl ⟨hb, _, ⟨_, _, hD⟩, ?_⟩
 subst hbe
 by_cases hl : all.length ≤ k
 ·refine .inr ⟨all, ?_, hl, ?_, by rw [decide_eq_true hl]⟩
  ·have := hE.inv.le
   have : i = all.length := by
    rcases Nat.lt_or_ge i all.length with h | h
    ·have := hex h; omega
    ·omega
   subst this
   exact hE
  ·have := hE.inv.le
   have : i = all.length := by
    rcases Nat.lt_or_ge i all.length with h | h
    ·have := hex h; omega
    ·omega
   subst this
   exact hD
 ·exact .inl ⟨⟨i, all, hE, by omega⟩, by rw [decide_eq_false hl]⟩
theorem wp_u {c rest : Code} {P : Program} {Q : Exit → Act → World → Prop} {A : Act} {w : World} (F : (Nat → Value) → Act) (hu : ∃ u, A = F u) (h : ∀ u, rest.wp P Q (F u) w) (hc : c = rest) : c.wp P Q A w := by
 obtain ⟨u, rfl⟩ := hu
 subst hc
 exact h u
theorem subsets_any {w : World} {v : Value} {a : NF} {k : Nat} (h : IsNF w w.heap.size v a) (hok : a.OK) (hn : a.n ≤ 200000) (hL : a.L ≤ 8) (hk : k ≤ 50000) (hT : PowT w) (hs : a.start.length ≤ 4000000)
  (hcat : ∀ m x, m.length = a.n → x < a.L → (a.cat (setL m) x).length ≤ 4000000) :
  Calls Tryz.prog 25 #[v, .int .i64 (k : Int)] w (Ret fun r w' => SubsRet w a k r w') := by
 have hNFH := hide h
 obtain ⟨A1, c1, A2, c2, A3, c3, rfl, h1, h2, h3, h4⟩ := h
 obtain ⟨g2, g4, g6, g7, gm, w1, w2, w3, w4, w5, w6, hg2, hg4, hg6, hg7, hw1, hw2, hw3, hw4, hB4, hw5, hw6, hM⟩ := subs_mem w a #[.int .i64 (a.L : Int), .slice A1 a.nx.length c1, .slice A2 a.start.length c2, .slice A3 a.acc.length c3]
 subst hg2 hg4 hg6 hg7
 have hMH := hide hM
 have hf4 := hB4.frozen
 have hl4 := hB4.lt
 have hc4 := hB4.cell
 have h6M := hM w6 (Below.refl _ _)
 have hc2 := h6M.b2.cell
 have hb06 := h6M.below
 have hsort := sorted_any (c := c2) (h2.keep (B' := w.heap.size) (fun p hp => hb06.cell hp) (Nat.le_refl _)) hs
 rw [start_set hok] at hsort
 have hsubs : ∀ wx : World, Below w6.heap.size w6 wx → ∀ r, wx.ownsRow w.heap.size 3 1 r (setL a.st).length ((setL a.st).map (Value.int .i64)) → Calls Tryz.prog 50 #[r, .pointer (some ⟨w3.heap.size, 0, none⟩), .pointer (some ⟨w5.heap.size, 0, none⟩), .pointer (some ⟨w1.heap.size, 0, none⟩), .pointer (some ⟨w.heap.size, 0, none⟩)] wx (Ret fun v w' => ∃ vA' vS' us', SubM w w' a w.heap.size w1.heap.size w3.heap.size w5.heap.size gm #[.int .i64 (a.L : Int), .slice A1 a.nx.length c1, .slice A2 a.start.length c2, .slice A3 a.acc.length c3] sn0 vA' vS' [a.st] [] us' [] (fun _ => True)) := fun wx hb r hr => by
  refine Calls.ret (sub1_any (hMH.out wx hb) hNFH.out hok.acc a.st_len hr (fun _ _ => trivial) hn (by simp) (hT.below (hMH.out wx hb).below)) ?_
  rintro v w' ⟨-, vA', vS', us', hS, -⟩
  exact ⟨vA', vS', us', hS⟩
 have hs6 := hb06.size
 have hgl2 := h6M.b2.lt
 have hTH := hide hT
 clear hM h6M h1 h2 h3 h4 hs hB4 hb06 hT
 go_enter Tryz.func25, Tryz.ntmps25
 go_wp2_with fail
 refine wp_scope_jumps (rest := labelRest Tryz.f25 0) 0 (fun a' w' => ∃ (u : Nat → Value) (va : Value) (i : Nat) (all : List (List Bool)) (vN vA vS : Value) (us ws : List Value), i ≤ k ∧ SubI w w' a w.heap.size w1.heap.size w3.heap.size w5.heap.size gm #[.int .i64 (a.L : Int), .slice A1 a.nx.length c1, .slice A2 a.start.length c2, .slice A3 a.acc.length c3] i all vN vA vS us ws ∧ a' = ⟨List.toArray ((va) :: (.int .i64 (k : Int)) :: (.pointer (some ⟨w.heap.size, 0, none⟩)) :: u 3 :: (.pointer (some ⟨w1.heap.size, 0, none⟩)) :: (.bool false) :: (.pointer (some ⟨w3.heap.size, 0, none⟩)) :: (.pointer (some ⟨w5.heap.size, 0, none⟩)) :: (.func (.func 50) #[] #[.pointer (some ⟨w3.heap.size, 0, none⟩), .pointer (some ⟨w5.heap.size, 0, none⟩), .pointer (some ⟨w1.heap.size, 0, none⟩), .pointer (some ⟨w.heap.size, 0, none⟩)]) :: (.int .i64 (i : Int)) :: u 10 :: u 11 :: u 12 :: u 13 :: u 14 :: u 15 :: u 16 :: u 17 :: u 18 :: u 19 :: u 20 :: u 21 :: u 22 :: u 23 :: u 24 :: u 25 :: u 26 :: u 27 :: u 28 :: u 29 :: u 30 :: u 31 :: u 32 :: u 33 :: u 34 :: u 35 :: u 36 :: u 37 :: u 38 :: u 39 :: u 40 :: u 41 :: u 42 :: u 43 :: u 44 :: u 45 :: u 46 :: u 47 :: u 48 :: u 49 :: u 50 :: u 51 :: u 52 :: u 53 :: u 54 :: u 55 :: u 56 :: u 57 :: u 58 :: u 59 :: u 60 :: u 61 :: u 62 :: []), []⟩) (fun a' _ => k + 1 - (intOf (a'.tmps.getD 9 undef)).toNat) (by kernel_rfl) ?_ ?_
 ·go_wp2_with fail
  refine Calls.ret hsort ?_
  rintro r w7 ⟨hr7, hb7⟩
  go_wp2_with fail
  refine Calls.ret (hsubs w7 hb7 r (own_mono hr7 hs6)) ?_
  rintro v w8 ⟨vA', vS', us', hS⟩
  go_wp2_with fail
  go_step3
  rename_i hK
  refine hK _ _ ?_
  refine wp_u (rest := labelRest1 Tryz.f25 0) (fun u => ⟨List.toArray ((.agg #[.int .i64 (a.L : Int), .slice A1 a.nx.length c1, .slice A2 a.start.length c2, .slice A3 a.acc.length c3]) :: (.int .i64 (k : Int)) :: (.pointer (some ⟨w.heap.size, 0, none⟩)) :: u 3 :: (.pointer (some ⟨w1.heap.size, 0, none⟩)) :: (.bool false) :: (.pointer (some ⟨w3.heap.size, 0, none⟩)) :: (.pointer (some ⟨w5.heap.size, 0, none⟩)) :: (.func (.func 50) #[] #[.pointer (some ⟨w3.heap.size, 0, none⟩), .pointer (some ⟨w5.heap.size, 0, none⟩), .pointer (some ⟨w1.heap.size, 0, none⟩), .pointer (some ⟨w.heap.size, 0, none⟩)]) :: (.int .i64 ((0 : Nat) : Int)) :: u 10 :: u 11 :: u 12 :: u 13 :: u 14 :: u 15 :: u 16 :: u 17 :: u 18 :: u 19 :: u 20 :: u 21 :: u 22 :: u 23 :: u 24 :: u 25 :: u 26 :: u 27 :: u 28 :: u 29 :: u 30 :: u 31 :: u 32 :: u 33 :: u 34 :: u 35 :: u 36 :: u 37 :: u 38 :: u 39 :: u 40 :: u 41 :: u 42 :: u 43 :: u 44 :: u 45 :: u 46 :: u 47 :: u 48 :: u 49 :: u 50 :: u 51 :: u 52 :: u 53 :: u 54 :: u 55 :: u 56 :: u 57 :: u 58 :: u 59 :: u 60 :: u 61 :: u 62 :: []), []⟩) (u_of _ _ rfl) ?_ (by kernel_rfl)
  intro u
  refine subs_pass (i := 0) (all := [a.st]) u (hI := ⟨hS, .start⟩) hNFH.out hok hn hL hk (Nat.zero_le _) hTH.out hcat ?_ ?_ ?_
  ·exact NoQ_jump (Reg.NoQ.body (fun _ _ h => h) (fun _ h => h))
  ·rintro ac w2 all' vN' vA' vS' us' ws' hlt hI' ⟨u', rfl⟩
   exact ⟨rfl, u', _, 1, all', vN', vA', vS', us', ws', by omega, hI', rfl⟩
  ·rintro ac w2 vN' vA' b hB4 hb hDF hbe hex hE ⟨u', rfl⟩
   exact subs_end u' hB4 hb hDF hbe hex hE
 ·rintro a' w' ⟨u, va, i, all, vN, vA, vS, us, ws, hik, hI, rfl⟩
  refine wp_seq (wp_skip (show Exit.then _ _ .normal _ _ from ?_))
  refine subs_pass u hI hNFH.out hok hn hL hk hik hTH.out hcat ?_ ?_ ?_
  ·exact NoQ_jump (Reg.NoQ.body (fun _ _ h => h) (fun _ h => h))
  ·rintro ac w2 all' vN' vA' vS' us' ws' hlt hI' ⟨u', rfl⟩
   exact ⟨rfl, ⟨u', va, i + 1, all', vN', vA', vS', us', ws', by omega, hI', rfl⟩, by simp [intOf]; omega⟩
  ·rintro ac w2 vN' vA' b hB4 hb hDF hbe hex hE ⟨u', rfl⟩
   exact subs_end u' hB4 hb hDF hbe hex hE
end Go.Proofs.YtakpmdmjbgipiaaGreatDoor
