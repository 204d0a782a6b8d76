/-
  Part XB of a proof.
-/
import Derived.Test.YtpmceapjnnkhjaaGreatDoorPA
import Derived.Test.YtpmceapjnnkhjaaGreatDoorXA
import Derived.Test.YtpmceapjnnkhjaaGreatDoorVA
set_option maxHeartbeats 16000000
set_option maxRecDepth 100000
set_option linter.unusedVariables false
set_option linter.unusedSimpArgs false
namespace Go.Proofs.YtpmceapjnnkhjaaGreatDoor
open Go.RowKit
set_option maxHeartbeats 16000000
set_option maxRecDepth 100000
namespace Reg
def Spl.chkI (P : Program) (ops : Array Oper) : Spl → List Nat → Bool
 | .leaf T, tab => statB ops tab && pairB (relB P true ops tab) T && T.all (fun i => decide (i < ops.size)) && fullB ops T
 | .node i j s t, tab => decide (i < ops.size) && decide (j < ops.size) && i != j && s.chkI P ops (addT tab i j) && t.chkI P ops (addT tab j i)
def Spl.goalI (P : Program) (ops : Array Oper) (Q : Post) (a : Act) (w : World) : Spl → List Nat → Prop
 | .leaf T, tab => RestI P ops tab Q [] T a w
 | .node i j s t, tab => s.goalI P ops Q a w (addT tab i j) ∧ t.goalI P ops Q a w (addT tab j i)
theorem splI_ops {P : Program} {ops : Array Oper} {Q : Post} {a : Act} {w : World} (hQ : NoQ Q) (s : Spl) : ∀ (tab l : List Nat), s.chkI P ops tab = true → Con tab l → l.Nodup → (∀ i ∈ l, i < ops.size) → (∀ i, i < ops.size → i ∈ l) → s.goalI P ops Q a w tab →
  wpOps P ops Q l a w := by
 induction s with
 | leaf T =>
  intro tab l hc hl hn hin hall hg
  simp only [Spl.chkI, Bool.and_eq_true] at hc
  obtain ⟨⟨⟨h1, h4⟩, h5⟩, h6⟩ := hc
  have hS : Stat P ops (befT tab) := stat_of h1
  have hT : T.Pairwise (Rel P true ops (befT tab)) := (pairB_pairwise T h4).imp fun {x y} hxy => by
   simp only [relB, Bool.and_eq_true, bne_iff_ne, ne_eq, Bool.not_eq_true', Bool.or_eq_true] at hxy
   refine ⟨hxy.1.1, hxy.1.2, ?_⟩
   rcases hxy.2 with h | h
   ·exact .inl h
   ·exact .inr fun ox oy hx hy => by rw [hx, hy] at h; exact h
  have hin' : ∀ x ∈ T, x < ops.size := fun x hx => by
   rw [List.all_eq_true] at h5
   simpa using h5 x hx
  have hTn : T.Nodup := (hT.imp fun {x y} hxy => hxy.1)
  have hperm : l.Perm T := (List.perm_ext_iff_of_nodup hn hTn).2 fun i => ⟨fun hi => fullB_mem h6 i (hin i hi), fun hi => hall i (hin' i hi)⟩
  have e : (fun k => k ∈ ([] : List Nat)) = fun _ => False := by funext k; simp
  have hg' : RestI P ops tab Q [] T a w := hg
  unfold RestI at hg'
  rw [e] at hg'
  exact WT_ops hQ _ _ _ _ (perm hQ hS T _ _ _ _ hperm hT hin' hl (fun r q hr => hr.elim) hg')
 | node i j s t ihs iht =>
  intro tab l hc hl hn hin hall hg
  simp only [Spl.chkI, Bool.and_eq_true, bne_iff_ne, ne_eq, decide_eq_true_eq] at hc
  obtain ⟨⟨⟨⟨h1, h2⟩, h3⟩, h4⟩, h5⟩ := hc
  obtain ⟨p, hp⟩ := List.mem_iff_getElem?.1 (hall i h1)
  obtain ⟨q, hq⟩ := List.mem_iff_getElem?.1 (hall j h2)
  rcases Nat.lt_trichotomy p q with h | h | h
  ·exact ihs _ l h4 (con_add hl hp hq h) hn hin hall hg.1
  ·subst h
   rw [hp] at hq
   exact absurd (Option.some.inj hq) h3
  ·exact iht _ l h5 (con_add hl hq hp h) hn hin hall hg.2
theorem region_splI {P : Program} {l : List Oper} {id : Nat} {Q : Post} {a : Act} {w : World} (tab : List Nat) (s : Spl) (hc : (befOkT l.toArray tab && drawB l.toArray && s.chkI P l.toArray tab) = true) (hQ : NoQ Q)
  (h : s.goalI P l.toArray Q a w.drew tab) : (Code.region id l.toArray true).wp P Q a w := by
 simp only [Bool.and_eq_true] at hc
 obtain ⟨⟨h2, h3⟩, h4⟩ := hc
 refine wp_region_draw fun t => ?_
 obtain ⟨⟨m, hlin⟩, hfull⟩ := schedule_lin h3 (P.follows .mixedOrders) t
 obtain ⟨p1, p2, p3⟩ := lin_bef (fun {i j} => befOkT_edge h2) _ [] hlin (fun j hj => by simp at hj)
 exact splI_ops hQ s tab _ h4 p1 p2 (fun i hi => (p3 i hi).1) (fun i hi => hfull i hi) h
theorem restI_walkE {P : Program} {Q : Post} {a : Act} {w : World} {l l1 : List Oper} {tab D T : List Nat} (T1 T2 : List Nat) (hT : T1 ++ T2 = T) (hl : pick l.toArray T1 = l1)
  (hc : (T1.all (fun i => decide (i < l.length)) && plainB P true l.toArray tab T1 && D.all (fun r => T1.all fun y => match l.toArray[r]?, l.toArray[y]? with
   | some q, some oy => !loadOp q.op || !eff P true oy || befT tab r y
   | _, _ => true) && fineB l.toArray T1) = true)
  (h : ∀ Qf : Post, (∀ a w, fineT l.toArray T1 a = true ∧ RestI P l.toArray tab Q (T1 ++ D) T2 a w → Qf .normal a w) → wpList P l.toArray Qf l1 a w) : RestI P l.toArray tab Q D T a w := by
 subst hT
 exact restI_walk T1 T2 hl hc h
end Reg
structure MrM (w0 wr : World) (g6 gs L n c0 : Nat) (vC vE : Value) (as' : List Int) (es : List Edg) : Prop where
 below : Below w0.heap.size w0 wr
 b6 : Blk wr g6 28 #[.int .i64 (L : Int), .int .i64 ((n : Int) + 1), .slice (some ⟨gs, 0, none⟩) 1 1, vC, vE]
 start : Blk wr gs 3 #[.int .i64 (c0 : Int)]
 acc : wr.ownsRow w0.heap.size 3 1 vC as'.length (as'.map (Value.int .i64))
 eds : wr.ownsRow w0.heap.size 65 3 vE es.length (es.flatMap eC)
 sepC : vC.ownBlock ≠ some gs
 ge : w0.heap.size ≤ g6 ∧ w0.heap.size ≤ gs
section
variable {w0 wr w' : World} {g6 gs L n c0 : Nat} {vC vE : Value} {as' : List Int} {es : List Edg}
theorem MrM.keep (h : MrM w0 wr g6 gs L n c0 vC vE as' es) (hb : Below wr.heap.size wr w') : MrM w0 w' g6 gs L n c0 vC vE as' es :=
 ⟨h.below.trans (hb.mono h.below.size), h.b6.below hb, h.start.below hb, own_below h.acc hb, own_below h.eds hb, h.sepC, h.ge⟩
theorem MrM.addA {q : Int} {vC' : Value} {w1 : World} (h : MrM w0 wr g6 gs L n c0 vC vE as' es) (hk1 : Kept wr w1 (fun k => vC.ownBlock = some k)) (ho : w1.ownsRow w0.heap.size 3 1 vC' (as'.length + 1) (as'.map (Value.int .i64) ++ [.int .i64 q])) (hmv : Moved wr vC vC') :
  MrM w0 (w1.setCell ⟨g6, 3, none⟩ vC') g6 gs L n c0 vC' vE (as' ++ [q]) es := by
 have n6 := h.b6.kept hk1 (own_blk_ne h.acc h.b6 (by decide))
 have hk2 := (Kept.refl w1 (fun k => k = g6)).setCell (p := ⟨g6, 3, none⟩) (fun _ => rfl) vC'
 have hall : Kept wr (w1.setCell ⟨g6, 3, none⟩ vC') (fun k => vC.ownBlock = some k ∨ k = g6) := (hk1.mono fun _ _ e => .inl e).trans hk2 fun _ _ e => .inr e
 have hty : ∀ {e : TypeId}, e ≠ 3 → e ≠ 28 → ∀ g cs, (vC.ownBlock = some g ∨ g = g6) → ¬ Blk wr g e cs := by
  rintro e h1 h2 g cs (e1 | e1) hB
  ·exact own_blk_ne h.acc hB (fun hh => h1 hh.symm) e1
  ·exact hB.ne_ h.b6 h2 e1
 refine ⟨h.below.trans (hall.below h.below.size ?_), n6.set_ 3 vC', h.start.kept hall ?_, ?_, own_ty hall h.eds (hty (by decide) (by decide)), moved_ne hmv h.start.lt h.sepC, h.ge⟩
 ·rintro b hb (e | e)
  ·have := own_base h.acc e; omega
  ·have := h.ge; omega
 ·rintro (e | e)
  ·exact h.sepC e
  ·exact h.start.ne_ h.b6 (by decide) e
 ·rw [List.length_append, List.map_append]
  exact own_ty hk2 ho (fun g cs e hB => by subst e; exact hB.ne_ n6 (by decide) rfl)
theorem MrM.addE {d : Edg} {vE' : Value} {w1 : World} (h : MrM w0 wr g6 gs L n c0 vC vE as' es) (hk1 : Kept wr w1 (fun k => vE.ownBlock = some k)) (ho : w1.ownsRow w0.heap.size 65 3 vE' (es.length + 1) (es.flatMap eC ++ eC d)) :
  MrM w0 (w1.setCell ⟨g6, 4, none⟩ vE') g6 gs L n c0 vC vE' as' (es ++ [d]) := by
 have n6 := h.b6.kept hk1 (own_blk_ne h.eds h.b6 (by decide))
 have hk2 := (Kept.refl w1 (fun k => k = g6)).setCell (p := ⟨g6, 4, none⟩) (fun _ => rfl) vE'
 have hall : Kept wr (w1.setCell ⟨g6, 4, none⟩ vE') (fun k => vE.ownBlock = some k ∨ k = g6) := (hk1.mono fun _ _ e => .inl e).trans hk2 fun _ _ e => .inr e
 have hty : ∀ {e : TypeId}, e ≠ 65 → e ≠ 28 → ∀ g cs, (vE.ownBlock = some g ∨ g = g6) → ¬ Blk wr g e cs := by
  rintro e h1 h2 g cs (e1 | e1) hB
  ·exact own_blk_ne h.eds hB (fun hh => h1 hh.symm) e1
  ·exact hB.ne_ h.b6 h2 e1
 refine ⟨h.below.trans (hall.below h.below.size ?_), n6.set_ 4 vE', h.start.kept hall fun x => hty (by decide) (by decide) _ _ x h.start, own_ty hall h.acc (hty (by decide) (by decide)), ?_, h.sepC, h.ge⟩
 ·rintro b hb (e | e)
  ·have := own_base h.eds e; omega
  ·have := h.ge; omega
 ·rw [List.length_append, List.flatMap_append]
  refine own_ty hk2 ?_ (fun g cs e hB => by subst e; exact hB.ne_ n6 (by decide) rfl)
  simpa using ho
theorem MrM.fin {wF : World} (h : MrM w0 wr g6 gs L n c0 vC vE as' es) (hk : Kept wr wF (fun k => k < w0.heap.size)) (ha : as'.length ≤ 4000000) (he : es.length ≤ 4000000) :
  IsWA wF wF.heap.size (.agg #[.int .i64 (L : Int), .int .i64 ((n : Int) + 1), .slice (some ⟨gs, 0, none⟩) 1 1, vC, vE]) ⟨(L : Int), (n : Int) + 1, [(c0 : Int)], as', es⟩ := by
 have hge := h.ge
 have hA := hk.ownsRow h.acc fun g hg e => by have := own_base h.acc hg; omega
 have hE := hk.ownsRow h.eds fun g hg e => by have := own_base h.eds hg; omega
 have hS := h.start.kept hk fun e => by omega
 obtain ⟨A2, c2, e2, h2⟩ := own_slI (B := wF.heap.size) hA rfl (Nat.le_refl _) (by omega)
 obtain ⟨A3, c3, e3, h3⟩ := own_slE (B := wF.heap.size) hE rfl (Nat.le_refl _) (by omega)
 obtain ⟨A1, c1, e1, h1⟩ := own_slI (B := wF.heap.size) (l := [(c0 : Int)]) (base := 0) (own_of_blk (n := 1) hS (Nat.zero_le _) rfl (by omega)) rfl (Nat.le_refl _) (by omega)
 injection e1 with e1 _ e4
 subst e1
 exact ⟨_, 1, A2, c2, A3, c3, by rw [e2, e3]; rfl, h1, h2, h3, Nat.le_refl _⟩
end
end Go.Proofs.YtpmceapjnnkhjaaGreatDoor
