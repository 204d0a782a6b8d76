/-
  Part MQ of a proof.
-/
import Derived.Test.YtpmceapjnnkhjaaDoorPA
import Derived.Test.YtpmceapjnnkhjaaDoorMI
import Derived.Test.YtpmceapjnnkhjaaDoorLV
import Derived.Test.YtpmceapjnnkhjaaDoorMN
set_option maxHeartbeats 16000000
set_option maxRecDepth 100000
set_option linter.unusedVariables false
set_option linter.unusedSimpArgs false
namespace Go.Proofs.YtpmceapjnnkhjaaDoor
open Go.RowKit
set_option maxHeartbeats 16000000
set_option maxRecDepth 100000
namespace Reg
def Spl.chkI (P : Program) (ops : Array Oper) : Spl → List Nat → Bool
 | .leaf T, tab => statB ops tab && pairB (relB P true ops tab) T && T.all (fun i => decide (i < ops.size)) && fullB ops T
 | .node i j s t, tab => decide (i < ops.size) && decide (j < ops.size) && i != j && s.chkI P ops (addT tab i j) && t.chkI P ops (addT tab j i)
def Spl.goalI (P : Program) (ops : Array Oper) (Q : Post) (a : Act) (w : World) : Spl → List Nat → Prop
 | .leaf T, tab => RestI P ops tab Q [] T a w
 | .node i j s t, tab => s.goalI P ops Q a w (addT tab i j) ∧ t.goalI P ops Q a w (addT tab j i)
theorem splI_ops {P : Program} {ops : Array Oper} {Q : Post} {a : Act} {w : World} (hQ : NoQ Q) (s : Spl) : ∀ (tab l : List Nat), s.chkI P ops tab = true → Con tab l → l.Nodup → (∀ i ∈ l, i < ops.size) → (∀ i, i < ops.size → i ∈ l) → s.goalI P ops Q a w tab →
  wpOps P ops Q l a w := by
 induction s with
 | leaf T =>
  intro tab l hc hl hn hin hall hg
  simp only [Spl.chkI, Bool.and_eq_true] at hc
  obtain ⟨⟨⟨h1, h4⟩, h5⟩, h6⟩ := hc
  have hS : Stat P ops (befT tab) := stat_of h1
  have hT : T.Pairwise (Rel P true ops (befT tab)) := (pairB_pairwise T h4).imp fun {x y} hxy => by
   simp only [relB, Bool.and_eq_true, bne_iff_ne, ne_eq, Bool.not_eq_true', Bool.or_eq_true] at hxy
   refine ⟨hxy.1.1, hxy.1.2, ?_⟩
   rcases hxy.2 with h | h
   ·exact .inl h
   ·exact .inr fun ox oy hx hy => by rw [hx, hy] at h; exact h
  have hin' : ∀ x ∈ T, x < ops.size := fun x hx => by
   rw [List.all_eq_true] at h5
   simpa using h5 x hx
  have hTn : T.Nodup := (hT.imp fun {x y} hxy => hxy.1)
  have hperm : l.Perm T := (List.perm_ext_iff_of_nodup hn hTn).2 fun i => ⟨fun hi => fullB_mem h6 i (hin i hi), fun hi => hall i (hin' i hi)⟩
  have e : (fun k => k ∈ ([] : List Nat)) = fun _ => False := by funext k; simp
  have hg' : RestI P ops tab Q [] T a w := hg
  unfold RestI at hg'
  rw [e] at hg'
  exact WT_ops hQ _ _ _ _ (perm hQ hS T _ _ _ _ hperm hT hin' hl (fun r q hr => hr.elim) hg')
 | node i j s t ihs iht =>
  intro tab l hc hl hn hin hall hg
  simp only [Spl.chkI, Bool.and_eq_true, bne_iff_ne, ne_eq, decide_eq_true_eq] at hc
  obtain ⟨⟨⟨⟨h1, h2⟩, h3⟩, h4⟩, h5⟩ := hc
  obtain ⟨p, hp⟩ := List.mem_iff_getElem?.1 (hall i h1)
  obtain ⟨q, hq⟩ := List.mem_iff_getElem?.1 (hall j h2)
  rcases Nat.lt_trichotomy p q with h | h | h
  ·exact ihs _ l h4 (con_add hl hp hq h) hn hin hall hg.1
  ·subst h
   rw [hp] at hq
   exact absurd (Option.some.inj hq) h3
  ·exact iht _ l h5 (con_add hl hq hp h) hn hin hall hg.2
theorem region_splI {P : Program} {l : List Oper} {id : Nat} {Q : Post} {a : Act} {w : World} (tab : List Nat) (s : Spl) (hc : (befOkT l.toArray tab && drawB l.toArray && s.chkI P l.toArray tab) = true) (hQ : NoQ Q)
  (h : s.goalI P l.toArray Q a w.drew tab) : (Code.region id l.toArray true).wp P Q a w := by
 simp only [Bool.and_eq_true] at hc
 obtain ⟨⟨h2, h3⟩, h4⟩ := hc
 refine wp_region_draw fun t => ?_
 obtain ⟨⟨m, hlin⟩, hfull⟩ := schedule_lin h3 (P.follows .mixedOrders) t
 obtain ⟨p1, p2, p3⟩ := lin_bef (fun {i j} => befOkT_edge h2) _ [] hlin (fun j hj => by simp at hj)
 exact splI_ops hQ s tab _ h4 p1 p2 (fun i hi => (p3 i hi).1) (fun i hi => hfull i hi) h
theorem restI_walkE {P : Program} {Q : Post} {a : Act} {w : World} {l l1 : List Oper} {tab D T : List Nat} (T1 T2 : List Nat) (hT : T1 ++ T2 = T) (hl : pick l.toArray T1 = l1)
  (hc : (T1.all (fun i => decide (i < l.length)) && plainB P true l.toArray tab T1 && D.all (fun r => T1.all fun y => match l.toArray[r]?, l.toArray[y]? with
   | some q, some oy => !loadOp q.op || !eff P true oy || befT tab r y
   | _, _ => true) && fineB l.toArray T1) = true)
  (h : ∀ Qf : Post, (∀ a w, fineT l.toArray T1 a = true ∧ RestI P l.toArray tab Q (T1 ++ D) T2 a w → Qf .normal a w) → wpList P l.toArray Qf l1 a w) : RestI P l.toArray tab Q D T a w := by
 subst hT
 exact restI_walk T1 T2 hl hc h
end Reg
structure MrM (w0 wr : World) (g6 gs L n c0 : Nat) (vC vE : Value) (as' : List Int) (es : List Edg) : Prop where
 below : Below w0.heap.size w0 wr
 b6 : Blk wr g6 25 #[.int .i64 (L : Int), .int .i64 ((n : Int) + 1), .slice (some ⟨gs, 0, none⟩) 1 1, vC, vE]
 start : Blk wr gs 3 #[.int .i64 (c0 : Int)]
 acc : wr.ownsRow w0.heap.size 3 1 vC as'.length (as'.map (Value.int .i64))
 eds : wr.ownsRow w0.heap.size 35 3 vE es.length (es.flatMap eC)
 sepC : vC.ownBlock ≠ some gs
 ge : w0.heap.size ≤ g6 ∧ w0.heap.size ≤ gs
section
variable {w0 wr w' : World} {g6 gs L n c0 : Nat} {vC vE : Value} {as' : List Int} {es : List Edg}
theorem MrM.keep (h : MrM w0 wr g6 gs L n c0 vC vE as' es) (hb : Below wr.heap.size wr w') : MrM w0 w' g6 gs L n c0 vC vE as' es :=
 ⟨h.below.trans (hb.mono h.below.size), h.b6.below hb, h.start.below hb, own_below h.acc hb, own_below h.eds hb, h.sepC, h.ge⟩
theorem MrM.addA {q : Int} {vC' : Value} {w1 : World} (h : MrM w0 wr g6 gs L n c0 vC vE as' es) (hk1 : Kept wr w1 (fun k => vC.ownBlock = some k)) (ho : w1.ownsRow w0.heap.size 3 1 vC' (as'.length + 1) (as'.map (Value.int .i64) ++ [.int .i64 q])) (hmv : Moved wr vC vC') :
  MrM w0 (w1.setCell ⟨g6, 3, none⟩ vC') g6 gs L n c0 vC' vE (as' ++ [q]) es := by
 have n6 := h.b6.kept hk1 (own_blk_ne h.acc h.b6 (by decide))
 have hk2 := (Kept.refl w1 (fun k => k = g6)).setCell (p := ⟨g6, 3, none⟩) (fun _ => rfl) vC'
 have hall : Kept wr (w1.setCell ⟨g6, 3, none⟩ vC') (fun k => vC.ownBlock = some k ∨ k = g6) := (hk1.mono fun _ _ e => .inl e).trans hk2 fun _ _ e => .inr e
 have hty : ∀ {e : TypeId}, e ≠ 3 → e ≠ 25 → ∀ g cs, (vC.ownBlock = some g ∨ g = g6) → ¬ Blk wr g e cs := by
  rintro e h1 h2 g cs (e1 | e1) hB
  ·exact own_blk_ne h.acc hB (fun hh => h1 hh.symm) e1
  ·exact hB.ne_ h.b6 h2 e1
 refine ⟨h.below.trans (hall.below h.below.size ?_), n6.set_ 3 vC', h.start.kept hall ?_, ?_, own_ty hall h.eds (hty (by decide) (by decide)), moved_ne hmv h.start.lt h.sepC, h.ge⟩
 ·rintro b hb (e | e)
  ·have := own_base h.acc e; omega
  ·have := h.ge; omega
 ·rintro (e | e)
  ·exact h.sepC e
  ·exact h.start.ne_ h.b6 (by decide) e
 ·rw [List.length_append, List.map_append]
  exact own_ty hk2 ho (fun g cs e hB => by subst e; exact hB.ne_ n6 (by decide) rfl)
theorem MrM.addE {d : Edg} {vE' : Value} {w1 : World} (h : MrM w0 wr g6 gs L n c0 vC vE as' es) (hk1 : Kept wr w1 (fun k => vE.ownBlock = some k)) (ho : w1.ownsRow w0.heap.size 35 3 vE' (es.length + 1) (es.flatMap eC ++ eC d)) :
  MrM w0 (w1.setCell ⟨g6, 4, none⟩ vE') g6 gs L n c0 vC vE' as' (es ++ [d]) := by
 have n6 := h.b6.kept hk1 (own_blk_ne h.eds h.b6 (by decide))
 have hk2 := (Kept.refl w1 (fun k => k = g6)).setCell (p := ⟨g6, 4, none⟩) (fun _ => rfl) vE'
 have hall : Kept wr (w1.setCell ⟨g6, 4, none⟩ vE') (fun k => vE.ownBlock = some k ∨ k = g6) := (hk1.mono fun _ _ e => .inl e).trans hk2 fun _ _ e => .inr e
 have hty : ∀ {e : TypeId}, e ≠ 35 → e ≠ 25 → ∀ g cs, (vE.ownBlock = some g ∨ g = g6) → ¬ Blk wr g e cs := by
  rintro e h1 h2 g cs (e1 | e1) hB
  ·exact own_blk_ne h.eds hB (fun hh => h1 hh.symm) e1
  ·exact hB.ne_ h.b6 h2 e1
 refine ⟨h.below.trans (hall.below h.below.size ?_), n6.set_ 4 vE', h.start.kept hall fun x => hty (by decide) (by decide) _ _ x h.start, own_ty hall h.acc (hty (by decide) (by decide)), ?_, h.sepC, h.ge⟩
 ·rintro b hb (e | e)
  ·have := own_base h.eds e; omega
  ·have := h.ge; omega
 ·rw [List.length_append, List.flatMap_append]
  refine own_ty hk2 ?_ (fun g cs e hB => by subst e; exact hB.ne_ n6 (by decide) rfl)
  simpa using ho
theorem MrM.fin {wF : World} (h : MrM w0 wr g6 gs L n c0 vC vE as' es) (hk : Kept wr wF (fun k => k < w0.heap.size)) (ha : as'.length ≤ 4000000) (he : es.length ≤ 4000000) :
  IsWA wF wF.heap.size (.agg #[.int .i64 (L : Int), .int .i64 ((n : Int) + 1), .slice (some ⟨gs, 0, none⟩) 1 1, vC, vE]) ⟨(L : Int), (n : Int) + 1, [(c0 : Int)], as', es⟩ := by
 have hge := h.ge
 have hA := hk.ownsRow h.acc fun g hg e => by have := own_base h.acc hg; omega
 have hE := hk.ownsRow h.eds fun g hg e => by have := own_base h.eds hg; omega
 have hS := h.start.kept hk fun e => by omega
 obtain ⟨A2, c2, e2, h2⟩ := own_slI (B := wF.heap.size) hA rfl (Nat.le_refl _) (by omega)
 obtain ⟨A3, c3, e3, h3⟩ := own_slE (B := wF.heap.size) hE rfl (Nat.le_refl _) (by omega)
 obtain ⟨A1, c1, e1, h1⟩ := own_slI (B := wF.heap.size) (l := [(c0 : Int)]) (base := 0) (own_of_blk (n := 1) hS (Nat.zero_le _) rfl (by omega)) rfl (Nat.le_refl _) (by omega)
 injection e1 with e1 _ e4
 subst e1
 exact ⟨_, 1, A2, c2, A3, c3, by rw [e2, e3]; rfl, h1, h2, h3, Nat.le_refl _⟩
end
theorem mr_open {w : World} {g2 gc L n c0 : Nat} {x2 x3 x4 : Value} {cl : List Nat} (hB : Blk w g2 25 #[.int .i64 (L : Int), .int .i64 (n : Int), x2, x3, x4]) (hC : NumsAt w gc n cl) (hn : n ≤ 200000) (hc0 : cl[0]? = some c0)
    {u0 u1 u3 u4 u6 u7 u8 u9 u10 u11 u12 u13 u14 u15 u16 u17 u18 u19 u20 u21 u22 u23 u24 u25 u26 u27 u28 u29 u30 u31 u32 u33 u34 u35 u36 u37 u38 u39 u40 u41 u42 u43 u44 u45 u46 u47 u48 u49 u50 u51 u52 u53 u54 u55 u56 u57 u58 u59 u60 u61 u62 u63 u64 u65 u66 u67 u68 u69 u70 u71 u72 u73 u74 u75 u76 : Value}
    {Q : Exit → Act → World → Prop} (hN : Reg.NoQ Q)
    (hQ : ∀ (x16 x17 x18 x19 x20 x21 x22 x23 x24 x25 : Value) (w' : World) (g6 gs : Nat), MrM w w' g6 gs L n c0 sn0 sn0 [] [] → Q .normal ⟨List.toArray (u0 :: u1 :: (.pointer (some ⟨g2, 0, none⟩)) :: u3 :: u4 :: (.slice (some ⟨gc, 0, none⟩) n n) :: (.pointer (some ⟨g6, 0, none⟩)) :: u7 :: u8 :: u9 :: u10 :: u11 :: u12 :: u13 :: u14 :: u15 :: x16 :: x17 :: x18 :: x19 :: x20 :: x21 :: x22 :: x23 :: x24 :: x25 ::
      u26 :: u27 :: u28 :: u29 :: u30 :: u31 :: u32 :: u33 :: u34 :: u35 :: u36 :: u37 :: u38 :: u39 :: u40 :: u41 :: u42 :: u43 :: u44 :: u45 :: u46 :: u47 :: u48 :: u49 :: u50 :: u51 :: u52 :: u53 :: u54 :: u55 :: u56 :: u57 :: u58 :: u59 :: u60 :: u61 :: u62 ::
      u63 :: u64 :: u65 :: u66 :: u67 :: u68 :: u69 :: u70 :: u71 :: u72 :: u73 :: u74 :: u75 :: u76 :: []), []⟩ w') :
    (regionAt Tryd.f77 2).wp Tryd.prog Q ⟨List.toArray (u0 :: u1 :: (.pointer (some ⟨g2, 0, none⟩)) :: u3 :: u4 :: (.slice (some ⟨gc, 0, none⟩) n n) :: u6 :: u7 :: u8 :: u9 :: u10 :: u11 :: u12 :: u13 :: u14 :: u15 :: u16 :: u17 :: u18 :: u19 :: u20 :: u21 :: u22 :: u23 :: u24 :: u25 :: u26 :: u27 :: u28 :: u29 ::
      u30 :: u31 :: u32 :: u33 :: u34 :: u35 :: u36 :: u37 :: u38 :: u39 :: u40 :: u41 :: u42 :: u43 :: u44 :: u45 :: u46 :: u47 :: u48 :: u49 :: u50 :: u51 :: u52 :: u53 :: u54 :: u55 :: u56 :: u57 :: u58 :: u59 :: u60 :: u61 :: u62 :: u63 :: u64 :: u65 :: u66 ::
      u67 :: u68 :: u69 :: u70 :: u71 :: u72 :: u73 :: u74 :: u75 :: u76 :: []), []⟩ w := by
  conv => arg 2; whnf
  have f2 := hB.cell
  have hc := hC.2.2 0 c0 hc0
  have hn0 : 0 < n := by have := hC.1; have := lt_of_get hc0; omega
  clear hc0
  have hne : ∀ (g6 gs : Nat) (wF : World), Below w.heap.size w wF → Blk wF g6 25 #[.int .i64 (L : Int), .int .i64 ((n : Int) + 1), .slice (some ⟨gs, 0, none⟩) 1 1, sn0, sn0] → Blk wF gs 3 #[.int .i64 (c0 : Int)] → w.heap.size ≤ g6 → w.heap.size ≤ gs → MrM w wF g6 gs L n c0 sn0 sn0 [] []   := fun _ _ _ h1 h2 h3 h4 h5 => ⟨h1, h2, h3, own_nil, own_nil, by simp [sn0, Value.ownBlock], h4, h5⟩
  have hneH := hide hne
  clear hne
  refine Reg.region_splI [0, 1, 0, 4, 12, 0, 32, 96, 224, 511, 0, 2047] (.node 8 10 (.node 9 10 (.leaf [0, 1, 2, 3, 4, 5, 6, 7, 8, 9, 10, 11]) (.leaf [0, 1, 2, 3, 4, 5, 6, 7, 8, 10, 9, 11])) (.leaf [0, 1, 2, 3, 4, 5, 6, 7, 10, 8, 9, 11])) (by kernel_rfl) hN ?_
  dsimp only [Reg.Spl.goalI]
  refine And.intro (And.intro ?_ ?_) ?_
  iterate 2
    · obtain ⟨w1, hw1, hb1, hB1, hk1⟩ := box_blk w #[.int .i64 (c0 : Int)] 3
      obtain ⟨w2, hw2, hb2, hB2, hk2⟩ := box_blk w1 #[.int .i64 0, .int .i64 0, .slice none 0 0, .slice none 0 0, .slice none 0 0] 25
      have s1 := hb1.size
      have l1 := hB1.lt
      have hB1' := hB1.below hb2
      have f5 := hB2.frozen
      have l5 := hB2.lt
      have hc5 := hB2.cell
      obtain ⟨wF, hwF, hBF, hKF⟩ := set5_facts hB2 (.int .i64 (L : Int)) (.int .i64 ((n : Int) + 1)) (.slice (some ⟨w.heap.size, 0, none⟩) 1 1) sn0 sn0
      have s2 := hb2.size
      have hbe0 : Below w.heap.size w wF := hb1.trans ((hb2.mono s1).trans (hKF.below (by omega) fun b hb e => by omega))
      have hbe : Below w.heap.size w wF.drew := hbe0.trans ((drewB wF).mono hbe0.size)
      have hS : Blk wF w.heap.size 3 #[.int .i64 (c0 : Int)] := Blk.kept hB1' hKF (by omega)
      have hMr := hide (hneH.out _ _ _ hbe (show Blk wF.drew _ 25 _ from hBF) (show Blk wF.drew _ 3 _ from hS) (by omega) (Nat.le_refl _))
      have hwH := hide hwF
      unfold set5 sn0 at hwF
      clear hb1 hB1 hk1 hb2 hB2 hk2 hB1' hBF hKF hbe hbe0 hS s2
      refine Reg.restI_walkE [0, 1, 2, 3, 4, 5, 6, 7] _ rfl rfl (by kernel_rfl) ?_
      intro Qf hQf
      go_wp2_with fail
      first | refine hQf _ _ ⟨rfl, ?_⟩ | refine ⟨rfl, ?_⟩
      try clear hQf
      first
      | (refine Reg.restI_walkE [8, 9, 10] _ rfl rfl (by kernel_rfl) ?_
         intro Qf hQf
         go_wp2_with fail
         first | refine hQf _ _ ⟨rfl, ?_⟩ | refine ⟨rfl, ?_⟩
         try clear hQf)
      | (refine Reg.restI_walkE [8, 10, 9] _ rfl rfl (by kernel_rfl) ?_
         intro Qf hQf
         go_wp2_with fail
         first | refine hQf _ _ ⟨rfl, ?_⟩ | refine ⟨rfl, ?_⟩
         try clear hQf)
      refine Reg.restI_act 11 _ [] rfl (by kernel_rfl) ?_
      intro Qf hQf
      simp only [gT, gS, gZ]
      go_wp2_with fail
      first | refine hQf _ _ ⟨Reg.nm, ?_⟩ | refine ⟨Reg.nm, ?_⟩
      try clear hQf
      refine Reg.restI_end ?_
      first | exact hQ _ _ _ _ _ _ _ _ _ _ _ _ _ hMr.out | trace_state
  · obtain ⟨w1, hw1, hb1, hB1, hk1⟩ := box_blk w #[.int .i64 0, .int .i64 0, .slice none 0 0, .slice none 0 0, .slice none 0 0] 25
    obtain ⟨w2, hw2, hb2, hB2, hk2⟩ := box_blk w1 #[.int .i64 (c0 : Int)] 3
    have s1 := hb1.size
    have l1 := hB1.lt
    have l2 := hB2.lt
    have hB1' := hB1.below hb2
    have f5 := hB1'.frozen
    have l5 := hB1'.lt
    have hc5 := hB1'.cell
    obtain ⟨wF, hwF, hBF, hKF⟩ := set5_facts hB1' (.int .i64 (L : Int)) (.int .i64 ((n : Int) + 1)) (.slice (some ⟨w1.heap.size, 0, none⟩) 1 1) sn0 sn0
    have s2 := hb2.size
    have hbe0 : Below w.heap.size w wF := hb1.trans ((hb2.mono s1).trans (hKF.below (by omega) fun b hb e => by omega))
    have hbe : Below w.heap.size w wF.drew := hbe0.trans ((drewB wF).mono hbe0.size)
    have hS : Blk wF w1.heap.size 3 #[.int .i64 (c0 : Int)] := Blk.kept hB2 hKF (by omega)
    have hMr := hide (hneH.out _ _ _ hbe (show Blk wF.drew _ 25 _ from hBF) (show Blk wF.drew _ 3 _ from hS) (Nat.le_refl _) (by omega))
    have hwH := hide hwF
    unfold set5 sn0 at hwF
    clear hb1 hB1 hk1 hb2 hB2 hk2 hB1' hBF hKF hbe hbe0 hS s2
    refine Reg.restI_walkE [0, 1, 2, 3, 4, 5, 6, 7] _ rfl rfl (by kernel_rfl) ?_
    intro Qf hQf
    go_wp2_with fail
    first | refine hQf _ _ ⟨rfl, ?_⟩ | refine ⟨rfl, ?_⟩
    try clear hQf
    refine Reg.restI_walkE [10, 8, 9] _ rfl rfl (by kernel_rfl) ?_
    intro Qf hQf
    go_wp2_with fail
    first | refine hQf _ _ ⟨rfl, ?_⟩ | refine ⟨rfl, ?_⟩
    try clear hQf
    refine Reg.restI_act 11 _ [] rfl (by kernel_rfl) ?_
    intro Qf hQf
    simp only [gT, gS, gZ]
    go_wp2_with fail
    first | refine hQf _ _ ⟨Reg.nm, ?_⟩ | refine ⟨Reg.nm, ?_⟩
    try clear hQf
    refine Reg.restI_end ?_
    first | exact hQ _ _ _ _ _ _ _ _ _ _ _ _ _ hMr.out | trace_state
end Go.Proofs.YtpmceapjnnkhjaaDoor
namespace Go.Proofs.YtpmceapjnnkhjaaDoor
open Go.RowKit
set_option maxHeartbeats 16000000
set_option maxRecDepth 100000
def clA (cl : List Nat) (q : Int) : Int := (cl.getD q.toNat 0 : Int)
def clE (cl : List Nat) (e : Edg) : Edg := ⟨(cl.getD e.frm.toNat 0 : Int), e.letter, (cl.getD e.to.toNat 0 : Int)⟩
theorem take_map_snoc {α β : Type} {f : α → β} {l : List α} {i : Nat} {x : α} (h : l[i]? = some x) : (l.take (i + 1)).map f = (l.take i).map f ++ [f x] := by
 rw [take_snoc h, List.map_append]
 rfl
theorem mr_acc {w0 w : World} {g2 gc g6 gs L n c0 k c2 l1 c1 l3 c3 : Nat} {x0 x1 : Value} {A1 A2 A3 : Option Addr} {SL : List Int} {cl : List Nat} (hM : MrM w0 w g6 gs L n c0 sn0 sn0 [] []) (hB : Blk w0 g2 25 #[x0, x1, .slice A1 l1 c1, .slice A2 k c2, .slice A3 l3 c3]) (hA : Sl w0 w0.heap.size 1 encI A2 SL) (hk : k = SL.length) (hC : NumsAt w0 gc n cl) (hlt : ∀ q ∈ SL, ∃ j : Nat, q = (j : Int) ∧ j < n) (hn9 : n ≤ 200000) (hk9 : k ≤ 250000)
  {u0 u1 u3 u4 u8 u9 u10 u11 u12 u13 u14 u15 u16 u17 u18 u19 u20 u21 u22 u23 u24 u25 u26 u27 u28 u29 u30 u31 u32 u33 u34 u35 u36 u37 u38 u39 u40 u41 u42 u43 u44 u45 u46 u47 u48 u49 u50 u51 u52 u53 u54 u55 u56 u57 u58 u59 u60 u61 u62 u63 u64 u65 u66 u67 u68 u69 u70 u71 u72 u73 u74 u75 u76 : Value}
  {Q : Exit → Act → World → Prop} (hN : Reg.NoQ Q)
  (hQ : ∀ (x7 x26 x27 x28 x29 x30 x31 x32 x33 x34 x35 x36 x37 x38 x39 x40 x41 x42 x43 x44 x45 : Value) (w' : World) (vC : Value), MrM w0 w' g6 gs L n c0 vC sn0 (SL.map (clA cl)) [] → Q (.exit 0) ⟨List.toArray (u0 :: u1 :: (.pointer (some ⟨g2, 0, none⟩)) :: u3 :: u4 :: (.slice (some ⟨gc, 0, none⟩) n n) :: (.pointer (some ⟨g6, 0, none⟩)) :: x7 :: u8 :: u9 :: u10 :: u11 :: u12 :: u13 :: u14 :: u15 :: u16 :: u17 :: u18 :: u19 :: u20 :: u21 :: u22 :: u23 :: u24 :: u25 ::
   x26 :: x27 :: x28 :: x29 :: x30 :: x31 :: x32 :: x33 :: x34 :: x35 :: x36 :: x37 :: x38 :: x39 :: x40 :: x41 :: x42 :: x43 :: x44 :: x45 :: u46 :: u47 :: u48 :: u49 :: u50 :: u51 :: u52 :: u53 :: u54 :: u55 :: u56 :: u57 :: u58 :: u59 :: u60 :: u61 :: u62 ::
   u63 :: u64 :: u65 :: u66 :: u67 :: u68 :: u69 :: u70 :: u71 :: u72 :: u73 :: u74 :: u75 :: u76 :: []), []⟩ w') :
  (Code.loop (loopBody Tryd.f77 0)).wp Tryd.prog Q ⟨List.toArray (u0 :: u1 :: (.pointer (some ⟨g2, 0, none⟩)) :: u3 :: u4 :: (.slice (some ⟨gc, 0, none⟩) n n) :: (.pointer (some ⟨g6, 0, none⟩)) :: (.int .i64 0) :: u8 :: u9 :: u10 :: u11 :: u12 :: u13 :: u14 :: u15 :: u16 :: u17 :: u18 :: u19 :: u20 :: u21 :: u22 :: u23 ::
   u24 :: u25 :: u26 :: u27 :: u28 :: u29 :: u30 :: u31 :: u32 :: u33 :: u34 :: u35 :: u36 :: u37 :: u38 :: u39 :: u40 :: u41 :: u42 :: u43 :: u44 :: u45 :: u46 :: u47 :: u48 :: u49 :: u50 :: u51 :: u52 :: u53 :: u54 :: u55 :: u56 :: u57 :: u58 :: u59 :: u60 ::
   u61 :: u62 :: u63 :: u64 :: u65 :: u66 :: u67 :: u68 :: u69 :: u70 :: u71 :: u72 :: u73 :: u74 :: u75 :: u76 :: []), []⟩ w := by
 conv => arg 2; arg 1; whnf
 have hMH := hide hM
 have hAH := hide hA
 have hkH := hide hk
 have hBH := hide hB
 have hCH := hide hC
 have hltH := hide hlt
 clear hM hA hk hB hC hlt
 go_loopw [7] (fun ii wr => ∃ (i : Nat) (vC : Value), ii = .int .i64 (i : Int) ∧ i ≤ k ∧ Hid (MrM w0 wr g6 gs L n c0 vC sn0 ((SL.take i).map (clA cl)) [])) (fun ii _ => k - (intOf ii).toNat)
 case atStart => exact ⟨0, _, rfl, Nat.zero_le _, hMH⟩
 case round =>
  obtain ⟨i, vC, rfl, hi, hI⟩ := hrel
  have f2 := (hBH.out.below hI.out.below).cell
  by_cases hlt2 : i < k
  ·obtain ⟨q, hq⟩ := get_lt (l := SL) (i := i) (by rw [← hkH.out]; exact hlt2)
   obtain ⟨j, rfl, hj⟩ := hltH.out q (List.mem_of_getElem? hq)
   obtain ⟨c, hc⟩ := get_lt (l := cl) (i := j) (by rw [hCH.out.1]; exact hj)
   obtain ⟨bA, oA, rfl, hbA, hcA⟩ := hAH.out.2 (fun e => by rw [e] at hq; simp at hq)
   have e0 := (hI.out.below.cell (p := ⟨bA, oA + i * 1 + 0, none⟩) hbA).trans (hcA i _ hq 0 (by omega))
   simp only [Nat.add_zero, Nat.mul_one, encI] at e0
   have e1 : wr.cell? ⟨gc, j, none⟩ = some (.int .i64 (c : Int)) := (hI.out.below.cell (p := ⟨gc, j, none⟩) hCH.out.2.1).trans (hCH.out.2.2 j c hc)
   have hcc : Hid (clA cl (j : Int) = (c : Int)) := by
    show _ = _
    unfold clA
    rw [Int.toNat_natCast, getD_some hc]
   have htk := hide (take_map_snoc (f := clA cl) hq)
   obtain ⟨AC, cC, rfl⟩ := slice_of_own hI.out.acc
   have hla : ((SL.take i).map (clA cl)).length = i := by rw [List.length_map, List.length_take]; have := hkH.out; omega
   have hlaH := hide hla
   have hc6 := hI.out.b6.cell
   rw [hla] at hc6
   have hId := hide (hI.out.keep (drewB wr))
   have hacc := hId.out.acc
   rw [hla] at hacc
   have hsz := hId.out.below.size
   have hi4 : i + 1 ≤ 4000000 := by omega
   clear hq hcA hc hla
   go_wp2_with fail
   refine Reg.cP [0, 1, 0, 0, 8, 0, 56, 120, 252, 508, 1020, 2047, 4095, 8191] ?_ (by kernel_rfl) (by repeat (first | exact hN | refine Reg.NoQ.then ?_ | refine Reg.NoQ.inBlock ?_))
   go_wp2_with (
    at_builtin
    refine wpList_app_new (w := wr.drew) row3 rfl _ _ rfl w0.heap.size (.slice AC i cC) i _ rfl hacc [.int .i64 (c : Int)] 1 rfl rfl (by simp [Value.oneCell']) hi4 hsz ?_
    intro g' cap' w8 hown8 hk8 hmv8 hg8
    have hk8' : Kept wr.drew w8 (fun k => (Value.slice AC ((SL.take i).map (clA cl)).length cC).ownBlock = some k) := (by rw [hlaH.out]; exact hk8)
    have hb68 := hId.out.b6.kept hk8' (own_blk_ne hId.out.acc hId.out.b6 (by decide))
    have hc68 := hb68.cell
    have hf68 := hb68.frozen 3
    have hl68 := hb68.lt
    have hJ := hide (hId.out.addA (q := (c : Int)) (vC' := .slice (some ⟨g', 0, none⟩) (i + 1) cap') (w1 := w8) hk8' (by rw [hlaH.out]; exact hown8) (by rw [hlaH.out]; exact hmv8))
    clear hown8 hk8 hk8' hmv8 hb68)
   refine ⟨⟨i + 1, .slice (some ⟨g', 0, none⟩) (i + 1) cap', by go_num, by omega, ?_⟩, by simp [intOf]; omega⟩
   rw [htk.out, hcc.out]
   exact hJ
  ·have hki : i = k := by omega
   have hIe := hI.out
   rw [List.take_of_length_le (by have := hkH.out; omega)] at hIe
   go_wp2_with fail
   first | exact hQ _ _ _ _ _ _ _ _ _ _ _ _ _ _ _ _ _ _ _ _ _ wr _ hIe | trace_state
theorem mr_edges {w0 w : World} {g2 gc g6 gs L n c0 m k2 c2 l1 c1 c3 : Nat} {x0 x1 vC : Value} {A1 A2 A3 : Option Addr} {as' : List Int} {ED : List Edg} {cl : List Nat} (hM : MrM w0 w g6 gs L n c0 vC sn0 as' []) (hB : Blk w0 g2 25 #[x0, x1, .slice A1 l1 c1, .slice A2 k2 c2, .slice A3 m c3]) (hA : Sl w0 w0.heap.size 3 encE A3 ED) (hk : m = ED.length) (hC : NumsAt w0 gc n cl) (hlt : ∀ e ∈ ED, ∃ q p : Nat, e.frm = (q : Int) ∧ e.to = (p : Int) ∧ q < n ∧ p < n) (hm9 : m ≤ 2000000)
  {u0 u1 u3 u4 u7 u9 u10 u11 u12 u13 u14 u15 u16 u17 u18 u19 u20 u21 u22 u23 u24 u25 u26 u27 u28 u29 u30 u31 u32 u33 u34 u35 u36 u37 u38 u39 u40 u41 u42 u43 u44 u45 u46 u47 u48 u49 u50 u51 u52 u53 u54 u55 u56 u57 u58 u59 u60 u61 u62 u63 u64 u65 u66 u67 u68 u69 u70 u71 u72 u73 u74 u75 u76 : Value}
  {Q : Exit → Act → World → Prop} (hN : Reg.NoQ Q)
  (hQ : ∀ (x8 x9 x46 x47 x48 x49 x50 x51 x52 x53 x54 x55 x56 x57 x58 x59 x60 x61 x62 x63 x64 x65 x66 x67 x68 x69 x70 x71 x72 x73 x74 x75 : Value) (w' : World) (vE : Value), MrM w0 w' g6 gs L n c0 vC vE as' (ED.map (clE cl)) → Q (.exit 2) ⟨List.toArray (u0 :: u1 :: (.pointer (some ⟨g2, 0, none⟩)) :: u3 :: u4 :: (.slice (some ⟨gc, 0, none⟩) n n) :: (.pointer (some ⟨g6, 0, none⟩)) :: u7 :: x8 :: x9 :: u10 :: u11 :: u12 :: u13 :: u14 :: u15 :: u16 :: u17 :: u18 :: u19 :: u20 :: u21 :: u22 :: u23 :: u24 :: u25 ::
   u26 :: u27 :: u28 :: u29 :: u30 :: u31 :: u32 :: u33 :: u34 :: u35 :: u36 :: u37 :: u38 :: u39 :: u40 :: u41 :: u42 :: u43 :: u44 :: u45 :: x46 :: x47 :: x48 :: x49 :: x50 :: x51 :: x52 :: x53 :: x54 :: x55 :: x56 :: x57 :: x58 :: x59 :: x60 :: x61 :: x62 ::
   x63 :: x64 :: x65 :: x66 :: x67 :: x68 :: x69 :: x70 :: x71 :: x72 :: x73 :: x74 :: x75 :: u76 :: []), []⟩ w') :
  (Code.loop (loopBody Tryd.f77 1)).wp Tryd.prog Q ⟨List.toArray (u0 :: u1 :: (.pointer (some ⟨g2, 0, none⟩)) :: u3 :: u4 :: (.slice (some ⟨gc, 0, none⟩) n n) :: (.pointer (some ⟨g6, 0, none⟩)) :: u7 :: (.int .i64 0) :: u9 :: u10 :: u11 :: u12 :: u13 :: u14 :: u15 :: u16 :: u17 :: u18 :: u19 :: u20 :: u21 :: u22 :: u23 ::
   u24 :: u25 :: u26 :: u27 :: u28 :: u29 :: u30 :: u31 :: u32 :: u33 :: u34 :: u35 :: u36 :: u37 :: u38 :: u39 :: u40 :: u41 :: u42 :: u43 :: u44 :: u45 :: u46 :: u47 :: u48 :: u49 :: u50 :: u51 :: u52 :: u53 :: u54 :: u55 :: u56 :: u57 :: u58 :: u59 :: u60 ::
   u61 :: u62 :: u63 :: u64 :: u65 :: u66 :: u67 :: u68 :: u69 :: u70 :: u71 :: u72 :: u73 :: u74 :: u75 :: u76 :: []), []⟩ w := by
 conv => arg 2; arg 1; whnf
 have hMH := hide hM
 have hAH := hide hA
 have hkH := hide hk
 have hBH := hide hB
 have hCH := hide hC
 have hltH := hide hlt
 clear hM hA hk hB hC hlt
 go_loopw [8] (fun ii wr => ∃ (i : Nat) (vE : Value), ii = .int .i64 (i : Int) ∧ i ≤ m ∧ Hid (MrM w0 wr g6 gs L n c0 vC vE as' ((ED.take i).map (clE cl)))) (fun ii _ => m - (intOf ii).toNat)
 case atStart => exact ⟨0, _, rfl, Nat.zero_le _, hMH⟩
 case round =>
  obtain ⟨i, vE, rfl, hi, hI⟩ := hrel
  have f2 := (hBH.out.below hI.out.below).cell
  by_cases hlt2 : i < m
  ·obtain ⟨e, he⟩ := get_lt (l := ED) (i := i) (by rw [← hkH.out]; exact hlt2)
   obtain ⟨q, p, hfe, hte, hq, hp⟩ := hltH.out e (List.mem_of_getElem? he)
   obtain ⟨c, hc⟩ := get_lt (l := cl) (i := q) (by rw [hCH.out.1]; exact hq)
   obtain ⟨d, hd⟩ := get_lt (l := cl) (i := p) (by rw [hCH.out.1]; exact hp)
   obtain ⟨bE, oE, rfl, hbE, hcE⟩ := hAH.out.2 (fun e => by rw [e] at he; simp at he)
   have hce := fun j hj => (hI.out.below.cell (p := ⟨bE, oE + i * 3 + j, none⟩) hbE).trans (hcE i _ he j hj)
   have e0 := hce 0 (by omega)
   have e1 := hce 1 (by omega)
   have e2 := hce 2 (by omega)
   simp only [Nat.add_zero, encE] at e0 e1 e2
   obtain ⟨x, hxe⟩ : ∃ x, x = e.letter := ⟨_, rfl⟩
   rw [hfe] at e0
   rw [← hxe] at e1
   rw [hte] at e2
   have hee : Hid (clE cl e = ⟨(c : Int), x, (d : Int)⟩) := by
    show _ = _
    unfold clE
    rw [hfe, hte, Int.toNat_natCast, Int.toNat_natCast, getD_some hc, getD_some hd, hxe]
   have htk := hide (take_map_snoc (f := clE cl) he)
   obtain ⟨wb, hwb, hbb, hBb, hkb⟩ := box_blk wr #[.int .i64 (q : Int), .int .i64 x, .int .i64 (p : Int)] 35
   have hId := hide ((hI.out.keep hbb).keep (drewB wb))
   have g1 : wb.cell? ⟨gc, q, none⟩ = some (.int .i64 (c : Int)) := (hId.out.below.cell (p := ⟨gc, q, none⟩) hCH.out.2.1).trans (hCH.out.2.2 q c hc)
   have g2 : wb.cell? ⟨gc, p, none⟩ = some (.int .i64 (d : Int)) := (hId.out.below.cell (p := ⟨gc, p, none⟩) hCH.out.2.1).trans (hCH.out.2.2 p d hd)
   obtain ⟨AE, cE, rfl⟩ := slice_of_own hI.out.eds
   have hla : ((ED.take i).map (clE cl)).length = i := by rw [List.length_map, List.length_take]; have := hkH.out; omega
   have hlaH := hide hla
   have hc6 : ∀ o, wb.cell? ⟨g6, o, none⟩ = _ := (hI.out.keep hbb).b6.cell
   rw [hla] at hc6
   have heds := hId.out.eds
   rw [hla] at heds
   have hsz := hId.out.below.size
   have hi4 : i + 1 ≤ 4000000 := by omega
   have hbc := hBb.cell
   have hbl := hBb.lt
   have hbf := hBb.frozen
   clear he hfe hte hcE hc hd hla hxe hce hbb hBb hkb
   go_wp2_with fail
   refine Reg.cC [0, 1, 0, 0, 8, 28, 60, 0, 128, 0, 0, 1024, 3584, 7680, 16380, 32764, 65535, 131071, 262143] [0, 1, 2, 3, 4, 5, 6, 7, 8, 9, 10, 11, 12, 13, 14, 15, 16, 17, 18] ?_ (by kernel_rfl) (by repeat (first | exact hN | refine Reg.NoQ.then ?_ | refine Reg.NoQ.inBlock ?_))
   refine Reg.rest_walk' [0, 1, 2, 3, 4, 5, 6, 7, 8, 9, 10, 11, 12, 13] [14, 15, 16, 17, 18] rfl (by kernel_rfl) ?_
   intro Qf hQf
   go_wp2_with fail
   first | refine hQf _ _ ?_ | skip
   try clear hQf
   refine Reg.rest_act' 14 [15, 16, 17, 18] [1] rfl (by kernel_rfl) ?_
   intro Qf hQf
   simp only [gT, gS, gZ]
   go_wp2_with fail
   first | refine hQf _ _ ⟨Reg.same_below (Below.refl _ _) [1] rfl, ?_⟩ | refine ⟨Reg.same_below (Below.refl _ _) [1] rfl, ?_⟩
   try clear hQf
   refine Reg.rest_walk' [15] [16, 17, 18] rfl (by kernel_rfl) ?_
   intro Qf hQf
   go_wp2_with fail
   first | refine hQf _ _ ?_ | skip
   try clear hQf
   refine Reg.rest_act' 16 [17, 18] [] rfl (by kernel_rfl) ?_
   intro Qf hQf
   simp only [gT, gS, gZ]
   refine wpList_app_new (w := wb.drew) row35 rfl _ _ rfl w0.heap.size (.slice AE i cE) i _ rfl heds [.int .i64 (c : Int), .int .i64 x, .int .i64 (d : Int)] 1 rfl rfl (by simp [Value.oneCell']) hi4 hsz ?_
   intro g' cap' w8 hown8 hk8 hmv8 hg8
   have hk8' : Kept wb.drew w8 (fun k => (Value.slice AE ((ED.take i).map (clE cl)).length cE).ownBlock = some k) := (by rw [hlaH.out]; exact hk8)
   have hb68 := hId.out.b6.kept hk8' (own_blk_ne hId.out.eds hId.out.b6 (by decide))
   have hc68 := hb68.cell
   have hf68 := hb68.frozen 4
   have hl68 := hb68.lt
   have hJ := hide (hId.out.addE (d := ⟨(c : Int), x, (d : Int)⟩) (vE' := .slice (some ⟨g', 0, none⟩) (i + 1) cap') (w1 := w8) hk8' (by rw [hlaH.out]; exact hown8))
   refine hQf _ _ ⟨Reg.nm, ?_⟩
   clear hQf hown8 hk8 hk8' hmv8 hb68 heds
   refine Reg.rest_walk' [17] [18] rfl (by kernel_rfl) ?_
   intro Qf hQf
   go_wp2_with fail
   first | refine hQf _ _ ?_ | skip
   try clear hQf
   refine Reg.rest_act' 18 [] [] rfl (by kernel_rfl) ?_
   intro Qf hQf
   simp only [gT, gS, gZ]
   go_wp2_with fail
   first | refine hQf _ _ ⟨Reg.nm, ?_⟩ | refine ⟨Reg.nm, ?_⟩
   try clear hQf
   refine Reg.rest_end ?_
   go_wp2_with fail
   refine ⟨⟨i + 1, .slice (some ⟨g', 0, none⟩) (i + 1) cap', by go_num, by omega, ?_⟩, by simp [intOf]; omega⟩
   rw [htk.out, hee.out]
   exact hJ
  ·have hki : i = m := by omega
   have hIe := hI.out
   rw [List.take_of_length_le (by have := hkH.out; omega)] at hIe
   go_wp2_with fail
   first | exact hQ _ _ _ _ _ _ _ _ _ _ _ _ _ _ _ _ _ _ _ _ _ _ _ _ _ _ _ _ _ _ _ _ wr _ hIe | trace_state
end Go.Proofs.YtpmceapjnnkhjaaDoor
namespace Go.Proofs.YtpmceapjnnkhjaaDoor
open Go.RowKit
set_option maxHeartbeats 16000000
set_option maxRecDepth 100000
theorem refmerged_any {w : World} {v : Value} {L : Nat} {t : List (List Nat)} {ac : List Bool} {d : Int} (h : IsWA w w.heap.size v (plainW L t ac)) (hok : DOK L t ac) (hn : ac.length ≤ 20000) (hL1 : 1 ≤ L) (hL : L ≤ 8) :
  Calls Tryd.prog 77 #[v, .int .i64 d] w (Ret fun r w' => Below w.heap.size w w' ∧ ∃ cl, ClsR L ac.length (dnx t) (dac ac) d cl ∧ IsWA w' w'.heap.size r (mrgA L t ac cl)) := by
 have hWA := hide h
 obtain ⟨A1, c1, A2, c2, A3, c3, rfl, -, h2, h3, -⟩ := h
 have h2H := hide h2
 have h3H := hide h3
 have hokH := hide hok
 have hel : (plainW L t ac).edges.length = ac.length * L := plainW_edges
 have hsl : (setL ac).length ≤ ac.length := setL_len ac
 obtain ⟨n, hne⟩ : ∃ n, n = ac.length := ⟨_, rfl⟩
 obtain ⟨m, hme⟩ : ∃ m, m = (plainW L t ac).edges.length := ⟨_, rfl⟩
 obtain ⟨k, hke⟩ : ∃ k, k = (setL ac).length := ⟨_, rfl⟩
 have hm9 : m ≤ 2000000 := by
  have : ac.length * L ≤ 20000 * 8 := Nat.mul_le_mul hn hL
  omega
 have hk9 : k ≤ 250000 := by omega
 have hn9 : n ≤ 20000 := by omega
 have hnH := hide hne
 have hmH := hide hme
 have hkH := hide hke
 have hpos := hok.pos
 have hnp : 0 < n := by omega
 have ev : (Value.agg #[.int .i64 (plainW L t ac).letters, .int .i64 (plainW L t ac).states, .slice A1 (plainW L t ac).start.length c1, .slice A2 (plainW L t ac).accept.length c2, .slice A3 (plainW L t ac).edges.length c3]) = .agg #[.int .i64 (L : Int), .int .i64 (n : Int), .slice A1 1 c1, .slice A2 k c2, .slice A3 m c3] := by
  rw [hne, hme, hke]
  rfl
 rw [ev] at hWA ⊢
 have htab := hide (fun (wx : World) (hb : Below w.heap.size w wx) => table_any (hWA.out.keep (w' := wx) (fun p hp => hb.cell hp) hb.size) hok (by omega) hL1 hL)
 obtain ⟨w1, hw1, hb1, hB1, hk1⟩ := box_blk w #[.int .i64 (L : Int), .int .i64 (n : Int), .slice A1 1 c1, .slice A2 k c2, .slice A3 m c3] 25
 obtain ⟨w2, hw2, hb2, hB2, hk2⟩ := box_blk w1 zero25 25
 have s1 := hb1.size
 have b02 := hide (hb1.trans (hb2.mono s1))
 have b02d := hide (b02.out.trans ((drewB w2).mono b02.out.size))
 have hBx2 := hide ((hB1.below hb2).below (drewB w2))
 have hBr2 := hide (hB2.below (drewB w2))
 have l1 := hB1.lt
 have f2 : ∀ o, w2.cell? ⟨w.heap.size, o, none⟩ = _ := (hB1.below hb2).cell
 have hcall := htab.out w2.drew b02d.out
 clear h2 h3 hok hel hsl hne hme hke hpos ev hb1 hB1 hk1 hb2 hB2 hk2 hn
 go_enter Tryd.func77, Tryd.ntmps77
 go_wp2_with fail
 refine Reg.cC [0, 1, 0, 4, 0, 31, 63] [0, 2, 3, 4, 1, 5, 6] ?_
 refine Reg.rest_walk' [0, 2, 3, 4] [1, 5, 6] rfl (by kernel_rfl) ?_
 intro Qf hQf
 go_wp2_with fail
 first | refine hQf _ _ ?_ | skip
 try clear hQf
 refine Reg.rest_act' 1 [5, 6] [3] rfl (by kernel_rfl) ?_
 intro Qf hQf
 simp only [gT, gS, gZ]
 go_wp2_with fail
 refine Calls.ret hcall ?_
 rintro r w3 ⟨hb3, hOw⟩
 have hIDF := hOw.read (fun r hr => by have h1 := (hokH.out.row r hr).1; omega) (by have h1 := hokH.out.len; have := hnH.out; omega) (by have := hnH.out; omega)
 obtain ⟨vN, vA, ws, rfl, hA, hN, hRows⟩ := hOw
 have b03 := hide (b02d.out.trans (hb3.mono b02d.out.size))
 have hBx3 := hide (hBx2.out.below hb3)
 have hBr3 := hide (hBr2.out.below hb3)
 have hcall2 := refclasses_any (d := d) (show TabF w3 L n vN vA t ac from ⟨hIDF, hokH.out, hnH.out.symm⟩) (by omega) hL
 go_wp2_with fail
 first | refine hQf _ _ ⟨Reg.same_below hb3 [3] rfl, ?_⟩ | refine ⟨Reg.same_below hb3 [3] rfl, ?_⟩
 try clear hQf
 clear hcall hIDF hA hN hRows hb3
 refine Reg.rest_act' 5 [6] [] rfl (by kernel_rfl) ?_
 intro Qf hQf
 simp only [gT, gS, gZ]
 go_wp2_with fail
 refine Calls.ret hcall2 ?_
 rintro r w4 ⟨hb4, gc, cl, rfl, hgc, hBc, hR⟩
 have b04 := hide (b03.out.trans (hb4.mono b03.out.size))
 have hBx4 := hide (hBx3.out.below hb4)
 have hBr4 := hide (hBr3.out.below hb4)
 have hCH := hide (NumsAt.of_blk hBc hR.len)
 have hRH := hide hR
 go_wp2_with fail
 first | refine hQf _ _ ⟨Reg.nm, ?_⟩ | refine ⟨Reg.nm, ?_⟩
 try clear hQf
 clear hcall2 hb4 hBc hR
 refine Reg.rest_walk' [6] [] rfl (by kernel_rfl) ?_
 intro Qf hQf
 go_wp2_with fail
 first | refine hQf _ _ ?_ | skip
 try clear hQf
 refine Reg.rest_end ?_
 go_wp2_with fail
 obtain ⟨c0, hc0⟩ := get_lt (l := cl) (i := 0) (by rw [hCH.out.1]; exact hnp)
 refine mr_open hBx4.out hCH.out (by omega) hc0 (by repeat (first | exact Reg.NoQ.body (fun _ _ h => h) (fun _ h => h) | refine Reg.NoQ.then ?_ | refine Reg.NoQ.inBlock ?_)) ?_
 iterate 10 (intro _)
 intro w5 g6 gs hM5
 have hM5H := hide hM5
 clear hM5
 go_wp2_with fail
 refine mr_acc (SL := setL ac) hM5H.out hBx4.out (h2H.out.keep (w' := w4) (fun p hp => b04.out.cell hp) b04.out.size) hkH.out hCH.out (fun q hq => by
  obtain ⟨j, rfl, hj⟩ := mem_setL.1 hq
  exact ⟨j, rfl, by have := lt_of_get hj; have := hnH.out; omega⟩) (by omega) hk9 (by repeat (first | exact Reg.NoQ.body (fun _ _ h => h) (fun _ h => h) | refine Reg.NoQ.then ?_ | refine Reg.NoQ.inBlock ?_)) ?_
 iterate 21 (intro _)
 intro w6 vC hM6
 have hM6H := hide hM6
 clear hM6
 go_wp2_with fail
 refine mr_edges (ED := (plainW L t ac).edges) hM6H.out hBx4.out (h3H.out.keep (w' := w4) (fun p hp => b04.out.cell hp) b04.out.size) hmH.out hCH.out (fun e he => by
  obtain ⟨q, x, hq, hx, rfl⟩ := plainW_mem.1 he
  have h1 := hokH.out.lt hq hx
  have := hnH.out
  exact ⟨q, dnx t q x, rfl, rfl, by omega, by omega⟩) hm9 (by repeat (first | exact Reg.NoQ.body (fun _ _ h => h) (fun _ h => h) | refine Reg.NoQ.then ?_ | refine Reg.NoQ.inBlock ?_)) ?_
 iterate 32 (intro _)
 intro w7 vE hM7
 have hb7 := hM7.below
 have hBr7 := hBr4.out.below hb7
 have l4 := hBr4.out.lt
 obtain ⟨AC, cC, rfl⟩ := slice_of_own hM7.acc
 obtain ⟨AE, cE, rfl⟩ := slice_of_own hM7.eds
 have hc6 := hM7.b6.cell
 obtain ⟨la, hla⟩ : ∃ la, la = ((setL ac).map (clA cl)).length := ⟨_, rfl⟩
 obtain ⟨le, hle⟩ : ∃ le, le = ((plainW L t ac).edges.map (clE cl)).length := ⟨_, rfl⟩
 rw [← hla, ← hle] at hc6
 have hf7 := hBr7.frozen
 have hl7 := hBr7.lt
 have hcr7 := hBr7.cell
 obtain ⟨wF, hwF, hBF, hKF⟩ := set5_facts hBr7 (.int .i64 (L : Int)) (.int .i64 ((n : Int) + 1)) (.slice (some ⟨gs, 0, none⟩) 1 1) (.slice AC la cC) (.slice AE le cE)
 have hBFc := hBF.cell
 have s4 := b04.out.size
 have hbF := hide ((b04.out.trans (hb7.mono s4)).trans (hKF.below (by have := hb7.size; omega) fun b hb e => by omega))
 have hfin : Hid (IsWA wF wF.heap.size (.agg #[.int .i64 (L : Int), .int .i64 ((n : Int) + 1), .slice (some ⟨gs, 0, none⟩) 1 1, .slice AC la cC, .slice AE le cE]) (mrgA L t ac cl)) := by
  have h1 := hM7.fin (hKF.mono fun b _ e => by omega) (by rw [List.length_map]; have := hkH.out; omega) (by rw [List.length_map]; have := hmH.out; omega)
  rw [← hla, ← hle] at h1
  have e1 : (⟨(L : Int), (n : Int) + 1, [(c0 : Int)], (setL ac).map (clA cl), (plainW L t ac).edges.map (clE cl)⟩ : WA) = mrgA L t ac cl := by
   unfold mrgA clA clE
   rw [hnH.out, getD_some hc0]
  rw [e1] at h1
  exact h1
 have hRF := hide (hnH.out ▸ hRH.out : ClsR L ac.length (dnx t) (dac ac) d cl)
 unfold set5 at hwF
 clear hM7 hb7 hBr7 hBF hKF hla hle hc0
 go_wp2_with fail
 exact bodyPost_ret (v := .agg #[.int .i64 (L : Int), .int .i64 ((n : Int) + 1), .slice (some ⟨gs, 0, none⟩) 1 1, .slice AC la cC, .slice AE le cE]) (by simp [results, Tryd.results77, go_sem, hBFc]) rfl ⟨hbF.out, cl, hRF.out, hfin.out⟩
end Go.Proofs.YtpmceapjnnkhjaaDoor
