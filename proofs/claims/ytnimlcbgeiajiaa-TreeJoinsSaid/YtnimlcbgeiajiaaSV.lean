/-
  operation.product: its closures.
  operation.product: the walk.
  Lists of automata in memory; tree.check: the walk.
  tree.pair, machine.empty, tree.Included: the walks.
-/
import Derived.Test.YtnimlcbgeiajiaaQU
import Derived.Test.YtnimlcbgeiajiaaQD

namespace Go.Proofs.Ytnimlcbgeiajiaa
open Go.RowKit

/-- What joins two answers. -/
def Op3 (v : Value) (j : Bool → Bool → Bool) : Prop :=
  (v = .func (.func 86) #[] #[] ∧ j = fun a b => a || b) ∨ (v = .func (.func 87) #[] #[] ∧ j = fun a b => a && b) ∨ (v = .func (.func 88) #[] #[] ∧ j = fun a b => a && !b)

theorem join86 (a b : Bool) (w : World) : Calls Try.prog 86 #[.bool a, .bool b] w fun e w' => e = .returned (.bool (a || b)) ∧ w = w' := by
  cases a <;> cases b
  all_goals
    go_enter Try.func86, Try.ntmps86
    go_wp2_with fail
    go_ret
    exact ⟨rfl, rfl⟩
theorem join87 (a b : Bool) (w : World) : Calls Try.prog 87 #[.bool a, .bool b] w fun e w' => e = .returned (.bool (a && b)) ∧ w = w' := by
  cases a <;> cases b
  all_goals
    go_enter Try.func87, Try.ntmps87
    go_wp2_with fail
    go_ret
    exact ⟨rfl, rfl⟩
theorem join88 (a b : Bool) (w : World) : Calls Try.prog 88 #[.bool a, .bool b] w fun e w' => e = .returned (.bool (a && !b)) ∧ w = w' := by
  cases a <;> cases b
  all_goals
    go_enter Try.func88, Try.ntmps88
    go_wp2_with fail
    go_ret
    exact ⟨rfl, rfl⟩

def set2 (w : World) (g : Nat) (v0 v1 : Value) : World := (w.setCell ⟨g, 0, none⟩ v0).setCell ⟨g, 1, none⟩ v1
theorem set2_facts {w : World} {g : Nat} {e : TypeId} {a0 a1 : Value} (h : Blk w g e #[a0, a1]) (v0 v1 : Value) : ∃ wF, set2 w g v0 v1 = wF ∧ Blk wF g e #[v0, v1] ∧ Kept w wF (fun k => k = g) :=
  ⟨_, rfl, (h.set_ 0 v0).set_ 1 v1, ((Kept.refl w (fun k => k = g)).setCell (p := ⟨g, 0, none⟩) (fun _ => rfl) _).setCell (p := ⟨g, 1, none⟩) (fun _ => rfl) _⟩

/-- Two machines, each behind a box. -/
structure TwoM (w : World) (base g4 g5 gM gN L : Nat) (va vl vb va' vl' vb' : Value) (ac : List Bool) (lf : List Nat) (t : List (List (List Nat))) (ac' : List Bool) (lf' : List Nat) (t' : List (List (List Nat))) : Prop where
  b4 : Blk w g4 62 #[.pointer (some ⟨gM, 0, none⟩)]
  b5 : Blk w g5 62 #[.pointer (some ⟨gN, 0, none⟩)]
  m : MachA w base gM L va vl vb ac lf t
  n : MachA w base gN L va' vl' vb' ac' lf' t'
theorem TwoM.keep {w w' : World} {X : Nat → Prop} {base g4 g5 gM gN L : Nat} {va vl vb va' vl' vb' : Value} {ac ac' : List Bool} {lf lf' : List Nat} {t t' : List (List (List Nat))} (h : TwoM w base g4 g5 gM gN L va vl vb va' vl' vb' ac lf t ac' lf' t') (hk : Kept w w' X)
    (hX : ∀ k t cs, X k → Blk w k t cs → t ≠ 62 ∧ t ≠ 82 ∧ t ≠ 4 ∧ t ≠ 3 ∧ t ≠ 22 ∧ t ≠ 104) : TwoM w' base g4 g5 gM gN L va vl vb va' vl' vb' ac lf t ac' lf' t' :=
  ⟨h.b4.kept hk fun hx => (hX _ _ _ hx h.b4).1 rfl, h.b5.kept hk fun hx => (hX _ _ _ hx h.b5).1 rfl, h.m.keep hk fun k t cs hx hb => (hX k t cs hx hb).2, h.n.keep hk fun k t cs hx hb => (hX k t cs hx hb).2⟩

set_option maxHeartbeats 4000000 in
set_option maxRecDepth 100000 in
theorem prod_leaf {w : World} {base g4 g5 gM gN L x : Nat} {va vl vb va' vl' vb' : Value} {ac ac' : List Bool} {lf lf' : List Nat} {t t' : List (List (List Nat))} (h : TwoM w base g4 g5 gM gN L va vl vb va' vl' vb' ac lf t ac' lf' t')
    (hok : MOK L ac lf t) (hok' : MOK L ac' lf' t') (hx : x < L) :
    Calls Try.prog 89 #[.int .i64 (x : Int), .pointer (some ⟨g4, 0, none⟩), .pointer (some ⟨g5, 0, none⟩)] w (Ret fun v w' => v = encP (mleaf lf x, mleaf lf' x) ∧ Below w.heap.size w w') := by
  obtain ⟨w1, hw1, hb1, hB1, hk1⟩ := box_blk w #[.int .i64 0, .int .i64 0] 118
  have h1 := h.keep hk1 (fun _ _ _ h => h.elim)
  have hL1 := hok.lfl
  have hL2 := hok'.lfl
  obtain ⟨e1, he1⟩ := get_lt (l := lf) (i := x) (by omega)
  obtain ⟨e2, he2⟩ := get_lt (l := lf') (i := x) (by omega)
  obtain ⟨gl, cl, rfl, hcl⟩ := own_get h1.m.lfs (map_get (f := encN) he1)
  obtain ⟨gl', cl', rfl, hcl'⟩ := own_get h1.n.lfs (map_get (f := encN) he2)
  have hm1 : mleaf lf x = e1 := getD_some he1
  have hm2 : mleaf lf' x = e2 := getD_some he2
  rw [hm1, hm2]
  simp only [encN] at hcl hcl'
  have hc4 := h1.b4.cell 0
  have hc5 := h1.b5.cell 0
  have hcm := h1.m.blk.cell
  have hcn := h1.n.blk.cell
  have hcr := hB1.cell
  have hfr := hB1.frozen
  have hlr := hB1.lt
  clear he1 he2 hm1 hm2
  rw [hL1, hL2] at *
  go_enter Try.func89, Try.ntmps89
  go_wp2_with fail
  refine Reg.region_plain [0, 1, 3, 7, 0, 31, 63, 0, 128, 384, 896, 0, 3968, 8064, 16383, 32767] (by kernel_rfl) (by repeat (first | exact Reg.NoQ.body (fun _ _ h => h) (fun _ h => h) | refine Reg.NoQ.then ?_ | refine Reg.NoQ.inBlock ?_)) ?_
  go_wp2_with fail
  obtain ⟨wF, hwF, hgF, hkF⟩ := set2_facts (w := w1.drew) hB1 (.int .i64 (e1 : Int)) (.int .i64 (e2 : Int))
  change bodyPost _ _ _ _ _ (set2 w1.drew w.heap.size (.int .i64 (e1 : Int)) (.int .i64 (e2 : Int)))
  rw [hwF]
  have hcF := hgF.cell
  have hbF : Below w.heap.size w wF := (hb1.trans ((drew_below w1).mono hb1.size)).trans (hkF.below hb1.size (fun b hb e => by omega))
  exact bodyPost_ret (v := encP (e1, e2)) (by simp [results, Try.results89, go_sem, hcF, encP]) rfl ⟨rfl, hbF⟩

set_option maxHeartbeats 4000000 in
set_option maxRecDepth 100000 in
theorem prod_br {w : World} {base g4 g5 gM gN L x : Nat} {va vl vb va' vl' vb' : Value} {ac ac' : List Bool} {lf lf' : List Nat} {t t' : List (List (List Nat))} (h : TwoM w base g4 g5 gM gN L va vl vb va' vl' vb' ac lf t ac' lf' t')
    (hok : MOK L ac lf t) (hok' : MOK L ac' lf' t') (hx : x < L) {s u : Nat × Nat} (hs : s.1 < ac.length ∧ s.2 < ac'.length) (hu : u.1 < ac.length ∧ u.2 < ac'.length) :
    Calls Try.prog 90 #[.int .i64 (x : Int), encP s, encP u, .pointer (some ⟨g4, 0, none⟩), .pointer (some ⟨g5, 0, none⟩)] w (Ret fun v w' => v = encP (mbr t x s.1 u.1, mbr t' x s.2 u.2) ∧ Below w.heap.size w w') := by
  obtain ⟨s1, s2⟩ := s
  obtain ⟨u1, u2⟩ := u
  dsimp only at hs hu ⊢
  obtain ⟨w1, hw1, hb1, hB1, hk1⟩ := box_blk w #[.int .i64 (s1 : Int), .int .i64 (s2 : Int)] 118
  obtain ⟨w2, hw2, hb2, hB2, hk2⟩ := box_blk w1 #[.int .i64 (u1 : Int), .int .i64 (u2 : Int)] 118
  obtain ⟨w3, hw3, hb3, hB3, hk3⟩ := box_blk w2 #[.int .i64 0, .int .i64 0] 118
  have hsz1 := hb1.size
  have hsz2 := hb2.size
  have hb13 := (hb1.trans (hb2.mono hsz1)).trans (hb3.mono (by omega))
  have h3 := ((h.keep hk1 (fun _ _ _ h => h.elim)).keep hk2 (fun _ _ _ h => h.elim)).keep hk3 (fun _ _ _ h => h.elim)
  obtain ⟨gv, cv, gi, ci, gj, cj, rfl, hc1, hc2, hc3⟩ := h3.m.at hok hs.1 hu.1 hx
  obtain ⟨gv', cv', gi', ci', gj', cj', rfl, hc1', hc2', hc3'⟩ := h3.n.at hok' hs.2 hu.2 hx
  have hc4 := h3.b4.cell 0
  have hc5 := h3.b5.cell 0
  have hcm := h3.m.blk.cell
  have hcn := h3.n.blk.cell
  have hcs := ((hB1.kept hk2 id).kept hk3 id).cell
  have hcu := (hB2.kept hk3 id).cell
  have hcr := hB3.cell
  have hfr := hB3.frozen
  have hlr := hB3.lt
  obtain ⟨hs1, hs2⟩ := hs
  obtain ⟨hu1, hu2⟩ := hu
  have hH13 := hide hb13
  have hZ1 := hide hsz1
  have hZ2 := hide hsz2
  obtain ⟨e1, he1⟩ : ∃ e, mbr t x s1 u1 = e := ⟨_, rfl⟩
  obtain ⟨e2, he2⟩ : ∃ e, mbr t' x s2 u2 = e := ⟨_, rfl⟩
  rw [he1] at hc3 ⊢
  rw [he2] at hc3' ⊢
  clear he1 he2 hb13 hsz1 hsz2
  unfold encP
  go_enter Try.func90, Try.ntmps90
  go_wp2_with fail
  refine Reg.region_plain [0, 1, 3, 7, 0, 16, 63, 127, 0, 256, 1023, 2047, 0, 8191, 16383, 0, 32768, 98304, 229376, 0, 524288, 2064384, 4161536, 0, 8388608, 33521664, 67076096, 0, 268402688, 536838144, 1073741823, 2147483647] (by kernel_rfl) (by repeat (first | exact Reg.NoQ.body (fun _ _ h => h) (fun _ h => h) | refine Reg.NoQ.then ?_ | refine Reg.NoQ.inBlock ?_)) ?_
  go_wp2_with fail
  obtain ⟨wF, hwF, hgF, hkF⟩ := set2_facts (w := w3.drew) hB3 (.int .i64 (e1 : Int)) (.int .i64 (e2 : Int))
  change bodyPost _ _ _ _ _ (set2 w3.drew w2.heap.size (.int .i64 (e1 : Int)) (.int .i64 (e2 : Int)))
  rw [hwF]
  have hcF := hgF.cell
  have hbF : Below w.heap.size w wF := (hH13.out.trans ((drew_below w3).mono hH13.out.size)).trans (hkF.below hH13.out.size (fun b hb e => by have := hZ1.out; have := hZ2.out; omega))
  exact bodyPost_ret (v := encP (e1, e2)) (by simp [results, Try.results90, go_sem, hcF, encP]) rfl ⟨rfl, hbF⟩

set_option maxHeartbeats 4000000 in
set_option maxRecDepth 100000 in
theorem prod_acc {w : World} {base g3 g4 g5 gM gN L : Nat} {va vl vb va' vl' vb' vj : Value} {j : Bool → Bool → Bool} {ac ac' : List Bool} {lf lf' : List Nat} {t t' : List (List (List Nat))} (h : TwoM w base g4 g5 gM gN L va vl vb va' vl' vb' ac lf t ac' lf' t')
    (h3 : Blk w g3 90 #[vj]) (hj : Op3 vj j) {s : Nat × Nat} (hs : s.1 < ac.length ∧ s.2 < ac'.length) :
    Calls Try.prog 91 #[encP s, .pointer (some ⟨g3, 0, none⟩), .pointer (some ⟨g4, 0, none⟩), .pointer (some ⟨g5, 0, none⟩)] w (Ret fun v w' => v = .bool (j (macc ac s.1) (macc ac' s.2)) ∧ Below w.heap.size w w') := by
  obtain ⟨s1, s2⟩ := s
  dsimp only at hs ⊢
  obtain ⟨w1, hw1, hb1, hB1, hk1⟩ := box_blk w #[.int .i64 (s1 : Int), .int .i64 (s2 : Int)] 118
  have h1 := h.keep hk1 (fun _ _ _ h => h.elim)
  obtain ⟨b1, hb1'⟩ := get_lt (l := ac) (i := s1) hs.1
  obtain ⟨b2, hb2'⟩ := get_lt (l := ac') (i := s2) hs.2
  obtain ⟨ga, ca, rfl, hca⟩ := own_get h1.m.acc (map_get (f := Value.bool) hb1')
  obtain ⟨ga', ca', rfl, hca'⟩ := own_get h1.n.acc (map_get (f := Value.bool) hb2')
  have hm1 : macc ac s1 = b1 := getD_some hb1'
  have hm2 : macc ac' s2 = b2 := getD_some hb2'
  rw [hm1, hm2]
  have hc3 := (h3.kept hk1 id).cell 0
  have hc4 := h1.b4.cell 0
  have hc5 := h1.b5.cell 0
  have hcm := h1.m.blk.cell
  have hcn := h1.n.blk.cell
  have hcs := hB1.cell
  obtain ⟨hs1, hs2⟩ := hs
  have hst := hide (hb1.trans ((drew_below w1).mono hb1.size))
  clear hb1' hb2' hm1 hm2 hb1
  unfold encP
  rcases hj with ⟨rfl, rfl⟩ | ⟨rfl, rfl⟩ | ⟨rfl, rfl⟩
  · go_enter Try.func91, Try.ntmps91
    go_wp2_with fail
    refine Reg.region_plain [0, 1, 0, 4, 12, 28, 0, 64, 252, 508, 0, 1024, 3072, 7168, 0, 16384, 64512, 130048, 262143, 524287] (by kernel_rfl) (by repeat (first | exact Reg.NoQ.body (fun _ _ h => h) (fun _ h => h) | refine Reg.NoQ.then ?_ | refine Reg.NoQ.inBlock ?_)) ?_
    go_wp2_with fail
    refine (join86 b1 b2 _).mono ?_
    rintro e w5 ⟨rfl, rfl⟩
    go_wp2_with fail
    go_ret
    exact ⟨rfl, hst.out⟩
  · go_enter Try.func91, Try.ntmps91
    go_wp2_with fail
    refine Reg.region_plain [0, 1, 0, 4, 12, 28, 0, 64, 252, 508, 0, 1024, 3072, 7168, 0, 16384, 64512, 130048, 262143, 524287] (by kernel_rfl) (by repeat (first | exact Reg.NoQ.body (fun _ _ h => h) (fun _ h => h) | refine Reg.NoQ.then ?_ | refine Reg.NoQ.inBlock ?_)) ?_
    go_wp2_with fail
    refine (join87 b1 b2 _).mono ?_
    rintro e w5 ⟨rfl, rfl⟩
    go_wp2_with fail
    go_ret
    exact ⟨rfl, hst.out⟩
  · go_enter Try.func91, Try.ntmps91
    go_wp2_with fail
    refine Reg.region_plain [0, 1, 0, 4, 12, 28, 0, 64, 252, 508, 0, 1024, 3072, 7168, 0, 16384, 64512, 130048, 262143, 524287] (by kernel_rfl) (by repeat (first | exact Reg.NoQ.body (fun _ _ h => h) (fun _ h => h) | refine Reg.NoQ.then ?_ | refine Reg.NoQ.inBlock ?_)) ?_
    go_wp2_with fail
    refine (join88 b1 b2 _).mono ?_
    rintro e w5 ⟨rfl, rfl⟩
    go_wp2_with fail
    go_ret
    exact ⟨rfl, hst.out⟩
end Go.Proofs.Ytnimlcbgeiajiaa

namespace Go.Proofs.Ytnimlcbgeiajiaa
open Go.RowKit

namespace PB
theorem built_get {S : Type} {L : Nat} {leaf : Nat → S} {br : Nat → S → S → S} {l : List S} {lf : List Nat} {t : List (List (List Nat))} (hl : lf.length = L) (hlf : LeafOK leaf l lf) (ht : TabOK L br l (fun _ => l.length) t) (htl : t.length = l.length) :
    (∀ x, x < L → l[mleaf lf x]? = some (leaf x)) ∧ ∀ x i j s u, x < L → l[i]? = some s → l[j]? = some u → l[mbr t x i j]? = some (br x s u) := by
  refine ⟨fun x hx => ?_, fun x i j s u hx hi hj => ?_⟩
  · obtain ⟨e, he⟩ := get_lt (l := lf) (i := x) (by omega)
    unfold mleaf
    rw [getD_some he]
    exact hlf x e he
  · obtain ⟨r, hr⟩ := get_lt (l := t) (i := i) (by rw [htl]; exact lt_of_get hi)
    obtain ⟨h1, h2⟩ := ht i r hr
    obtain ⟨row, hrow⟩ := get_lt (l := r) (i := j) (by rw [h1]; exact lt_of_get hj)
    obtain ⟨h3, h4⟩ := h2 j row hrow
    obtain ⟨e, he⟩ := get_lt (l := row) (i := x) (by omega)
    obtain ⟨s', u', e1, e2, e3⟩ := h4 x e he
    rw [hi] at e1; rw [hj] at e2
    injection e1 with e1; injection e2 with e2
    subst e1 e2
    unfold mbr
    rw [getD_some hr, getD_some hrow, getD_some he]
    exact e3
theorem built_ok {S : Type} {L : Nat} {leaf : Nat → S} {br : Nat → S → S → S} {acc : S → Bool} {l : List S} {lf : List Nat} {t : List (List (List Nat))} (hn : l.Nodup) (hR : ∀ s ∈ l, Reach L leaf br s) (hl : lf.length = L) (hlf : LeafOK leaf l lf)
    (ht : TabOK L br l (fun _ => l.length) t) (htl : t.length = l.length) :
    MOK L (l.map acc) lf t ∧ (∀ tr : Tr, tr.ok L → l[runT (mleaf lf) (mbr t) tr]? = some (runT leaf br tr)) ∧ ∀ tr : Tr, tr.ok L → macc (l.map acc) (runT (mleaf lf) (mbr t) tr) = acc (runT leaf br tr) := by
  obtain ⟨hx, hb⟩ := built_get hl hlf ht htl
  have hrun : ∀ tr : Tr, tr.ok L → l[runT (mleaf lf) (mbr t) tr]? = some (runT leaf br tr) := by
    intro tr
    induction tr with
    | leaf x => exact fun h => hx x h
    | node x s u ihs ihu => exact fun h => hb x _ _ _ _ h.1 (ihs h.2.1) (ihu h.2.2)
  refine ⟨⟨hl, by simp [htl], fun i r hr => ?_, ⟨fun x h => ?_, fun x p q h hp hq => ?_, fun q hq => ?_⟩⟩, hrun, fun tr h => ?_⟩
  · obtain ⟨h1, h2⟩ := ht i r hr
    exact ⟨by simpa using h1, fun j row hrow => (h2 j row hrow).1⟩
  · have := lt_of_get (hx x h)
    simpa using this
  · obtain ⟨s, hs⟩ := get_lt (l := l) (i := p) (by simpa using hp)
    obtain ⟨u, hu⟩ := get_lt (l := l) (i := q) (by simpa using hq)
    have := lt_of_get (hb x p q s u h hs hu)
    simpa using this
  · obtain ⟨s, hs⟩ := get_lt (l := l) (i := q) (by simpa using hq)
    obtain ⟨tr, h1, h2⟩ := reach_run.1 (hR s (List.mem_of_getElem? hs))
    have h3 := hrun tr h1
    rw [h2] at h3
    have : runT (mleaf lf) (mbr t) tr = q := by
      exact (List.getElem?_inj (lt_of_get h3) hn).1 (h3.trans hs.symm)
    exact reach_run.2 ⟨tr, h1, this⟩
  · unfold macc
    exact getD_some (map_get (hrun tr h))
end PB

def pLeaf (lf lf' : List Nat) (x : Nat) : Nat × Nat := (mleaf lf x, mleaf lf' x)
def pBr (t t' : List (List (List Nat))) (x : Nat) (s u : Nat × Nat) : Nat × Nat := (mbr t x s.1 u.1, mbr t' x s.2 u.2)
def pAcc (j : Bool → Bool → Bool) (ac ac' : List Bool) (s : Nat × Nat) : Bool := j (macc ac s.1) (macc ac' s.2)
theorem pRun (lf lf' : List Nat) (t t' : List (List (List Nat))) (tr : Tr) : runT (pLeaf lf lf') (pBr t t') tr = (runT (mleaf lf) (mbr t) tr, runT (mleaf lf') (mbr t') tr) := by
  induction tr with
  | leaf x => rfl
  | node x s u ihs ihu => simp only [runT, ihs, ihu]; rfl
theorem Blk.ty_eq {w : World} {g : Nat} {t t' : TypeId} {cs cs' : Array Value} (h : Blk w g t cs) (h' : Blk w g t' cs') : t' = t := by
  unfold Blk at h h'
  rw [h] at h'
  injection h' with h'
  injection h' with _ h'
  exact h'.symm
theorem Canon.congr {L n : Nat} {leaf : Nat → Nat} {br : Nat → Nat → Nat → Nat} {acc : Nat → Bool} {Λ Λ' : Tr → Bool} (h : Canon L n leaf br acc Λ) (hΛ : ∀ t : Tr, t.ok L → Λ t = Λ' t) : Canon L n leaf br acc Λ' :=
  ⟨h.isM, fun tr htr => (h.lang tr htr).trans (hΛ tr htr), fun tr u htr hu he => h.sep tr u htr hu fun r => EqT.congr (fun tr htr => (hΛ tr htr).symm) r tr u htr hu (he r), h.ord⟩
theorem pairs_mul {n n' : Nat} (l : List (Nat × Nat)) (hn : l.Nodup) (hs : ∀ s ∈ l, s.1 < n ∧ s.2 < n') : l.length ≤ n * n' := by
  have h1 := len_le l ((List.range n).flatMap fun a => (List.range n').map fun b => (a, b)) hn fun s hx => by
    obtain ⟨h1, h2⟩ := hs s hx
    exact List.mem_flatMap.2 ⟨s.1, List.mem_range.2 h1, List.mem_map.2 ⟨s.2, List.mem_range.2 h2, rfl⟩⟩
  have e : ∀ (f : Nat → List (Nat × Nat)) (m : Nat) (r : List Nat), (∀ a ∈ r, (f a).length = m) → (r.flatMap f).length = r.length * m := fun f m r => by
    induction r with
    | nil => intro _; simp
    | cons a r ih =>
      intro h
      rw [List.flatMap_cons, List.length_append, ih fun b hb => h b (by simp [hb]), h a (by simp), List.length_cons, Nat.add_mul]
      omega
  rw [e _ n' _ (fun a _ => by simp), List.length_range] at h1
  exact h1
theorem pairs_len {n n' : Nat} (h : n ≤ 64) (h' : n' ≤ 64) (l : List (Nat × Nat)) (hn : l.Nodup) (hs : ∀ s ∈ l, s.1 < n ∧ s.2 < n') : l.length ≤ 4096 := by
  have h1 := pairs_mul l hn hs
  have : n * n' ≤ 64 * 64 := Nat.mul_le_mul h h'
  omega

set_option maxHeartbeats 8000000 in
set_option maxRecDepth 100000 in
theorem product_any {w : World} {base gM gN L : Nat} {va vl vb va' vl' vb' vj : Value} {j : Bool → Bool → Bool} {ac ac' : List Bool} {lf lf' : List Nat} {t t' : List (List (List Nat))} (hM : MachA w base gM L va vl vb ac lf t) (hN : MachA w base gN L va' vl' vb' ac' lf' t')
    (hok : MOK L ac lf t) (hok' : MOK L ac' lf' t') (h0 : 0 < L) (hL : L ≤ 8) (hn : ac.length ≤ 64) (hn' : ac'.length ≤ 64) (hj : Op3 vj j) :
    Calls Try.prog 67 #[.agg #[vj], .pointer (some ⟨gM, 0, none⟩), .pointer (some ⟨gN, 0, none⟩)] w (Ret fun v w' => Below w.heap.size w w' ∧ ∃ (gR : Nat) (ar : List Bool) (lr : List Nat) (tr : List (List (List Nat))), v = .pointer (some ⟨gR, 0, none⟩) ∧ w.heap.size ≤ gR ∧
      Mach w' w.heap.size gR L ar lr tr ∧ MOK L ar lr tr ∧ ar.length ≤ ac.length * ac'.length ∧ Canon L ar.length (mleaf lr) (mbr tr) (macc ar) (fun u => j (macc ac (runT (mleaf lf) (mbr t) u)) (macc ac' (runT (mleaf lf') (mbr t') u)))) := by
  obtain ⟨w1, hw1, hb1, hB1, hk1⟩ := box_blk w #[vj] 90
  obtain ⟨w2, hw2, hb2, hB2, hk2⟩ := box_blk w1 #[.pointer (some ⟨gM, 0, none⟩)] 62
  obtain ⟨w3, hw3, hb3, hB3, hk3⟩ := box_blk w2 #[.pointer (some ⟨gN, 0, none⟩)] 62
  obtain ⟨w4, hw4, hb4, hB4, hk4⟩ := box_blk w3 #[.int .i64 (L : Int), .int .i64 0, .map none, .slice none 0 0, .func (.func 89) #[] #[.pointer (some ⟨w1.heap.size, 0, none⟩), .pointer (some ⟨w2.heap.size, 0, none⟩)], .func (.func 90) #[] #[.pointer (some ⟨w1.heap.size, 0, none⟩), .pointer (some ⟨w2.heap.size, 0, none⟩)], .func (.func 91) #[] #[.pointer (some ⟨w.heap.size, 0, none⟩), .pointer (some ⟨w1.heap.size, 0, none⟩), .pointer (some ⟨w2.heap.size, 0, none⟩)]] 125
  have hz1 := hide hb1.size
  have hz2 := hide hb2.size
  have hz3 := hide hb3.size
  have hz4 := hide hb4.size
  have hT3 : TwoM w3 base w1.heap.size w2.heap.size gM gN L va vl vb va' vl' vb' ac lf t ac' lf' t' :=
    ⟨hB2.kept hk3 id, hB3, ((hM.keep hk1 (fun _ _ _ h => h.elim)).keep hk2 (fun _ _ _ h => h.elim)).keep hk3 (fun _ _ _ h => h.elim), ((hN.keep hk1 (fun _ _ _ h => h.elim)).keep hk2 (fun _ _ _ h => h.elim)).keep hk3 (fun _ _ _ h => h.elim)⟩
  have hcm := hT3.m.blk.cell
  have hc4 := hT3.b4.cell 0
  have hT4 := hide (hT3.keep hk4 (fun _ _ _ h => h.elim))
  have h34 := hide (((hB1.kept hk2 id).kept hk3 id).kept hk4 id)
  have hHB4 := hide hB4
  have hO1 := hide hok
  have hO2 := hide hok'
  have hJ := hide hj
  have hmf := run_mf
  clear hM hN hT3 hok hok' hj hB1 hB2 hB3 hB4 hk1 hk2 hk3 hk4
  go_enter Try.func67, Try.ntmps67
  go_wp2_with fail
  have hX : ∀ (k : Nat) (t0 : TypeId) (cs : Array Value), k = w3.heap.size → Blk w4 k t0 cs → t0 = 125 := fun k t0 cs e hb => by
    subst e
    exact hHB4.out.ty_eq hb
  have hC : PB.ClosU w4 w3.heap.size L (.pointer (some ⟨w1.heap.size, 0, none⟩)) (.pointer (some ⟨w2.heap.size, 0, none⟩)) (.pointer (some ⟨w.heap.size, 0, none⟩)) (pLeaf lf lf') (pBr t t') (pAcc j ac ac') (fun s => s.1 < ac.length ∧ s.2 < ac'.length) := by
    refine ⟨fun w' hk x hx => ?_, fun w' hk x s u hx hs hu => ?_, fun w' hk s hs => ?_, fun x hx => ⟨hO1.out.isM.leaf_lt x hx, hO2.out.isM.leaf_lt x hx⟩, fun x s u hx hs hu => ⟨hO1.out.isM.br_lt x _ _ hx hs.1 hu.1, hO2.out.isM.br_lt x _ _ hx hs.2 hu.2⟩, pairs_len hn hn'⟩
    · exact prod_leaf (hT4.out.keep hk fun k t0 cs e hb => by rw [hX k t0 cs e hb]; decide) hO1.out hO2.out hx
    · exact prod_br (hT4.out.keep hk fun k t0 cs e hb => by rw [hX k t0 cs e hb]; decide) hO1.out hO2.out hx hs hu
    · exact prod_acc (hT4.out.keep hk fun k t0 cs e hb => by rw [hX k t0 cs e hb]; decide) (h34.out.kept hk fun e => by have := hX _ _ _ e h34.out; revert this; decide) hJ.out hs
  refine Calls.ret (PB.buildU hC h0 hL hHB4.out) ?_
  rintro v w5 ⟨hk5, l, hn5, hR5, hP5, gB, lfb, tb, rfl, hgB, ⟨vA, vL, vB, hMb⟩, hlb, hLb, hTb, htb, hl5⟩
  obtain ⟨hokb, -, haccb⟩ := PB.built_ok (acc := pAcc j ac ac') hn5 hR5 hlb hLb hTb htb
  have hMM := hide hMb
  have hOO := hide hokb
  have hAA := hide haccb
  have hlen : (l.map (pAcc j ac ac')).length ≤ 4096 := by simpa using hl5
  have hmul : (l.map (pAcc j ac ac')).length ≤ ac.length * ac'.length := by simpa using pairs_mul l hn5 hP5
  have hpos := hokb.pos h0
  have hz5 := hide hk5.size
  have hK5 := hide hk5
  clear hC hX hk5 hn5 hR5 hP5 hMb hlb hLb hTb htb hokb haccb hcm hc4
  go_wp2_with fail
  refine Calls.ret (minimal_any hMM.out hOO.out h0 hL (by omega) hpos) ?_
  rintro v w6 ⟨hb6, gR, ar, lr, tr, rfl, hgR, hMr, hokr, hler, hcan⟩
  have hM6 := hide hMr
  have hO6 := hide hokr
  have hC6 := hide hcan
  have hB6 := hide hb6
  clear hMr hokr hcan hb6
  go_wp2_with fail
  go_ret
  have z1 := hz1.out
  have z2 := hz2.out
  have z3 := hz3.out
  have z4 := hz4.out
  have z5 := hz5.out
  have hbel : Below w.heap.size w w6 := ((((hb1.trans (hb2.mono z1)).trans (hb3.mono (by omega))).trans (hb4.mono (by omega))).trans (hK5.out.below (by omega) fun b hb e => by omega)).trans (hB6.out.mono (by omega))
  refine ⟨hbel, gR, ar, lr, tr, rfl, by omega, hM6.out.weak (by omega), hO6.out, Nat.le_trans hler hmul, hC6.out.congr fun u hu => ?_⟩
  rw [hAA.out u hu, pRun]
  rfl
end Go.Proofs.Ytnimlcbgeiajiaa

namespace Go.Proofs.Ytnimlcbgeiajiaa
open Go.RowKit

/-- A slice that reads as a list of automata. -/
def TAs (w : World) (B : Nat) (A : Option Addr) (l : List TA) : Prop :=
  l.length ≤ 9223372036854775807 ∧ (l ≠ [] → ∃ b off, A = some ⟨b, off, none⟩ ∧ b < B ∧ ∀ k a, l[k]? = some a → ∃ A1 c1 A2 c2 A3 c3, 
    w.cell? ⟨b, off + k * 5, none⟩ = some (.int .i64 a.letters) ∧ w.cell? ⟨b, off + k * 5 + 1, none⟩ = some (.int .i64 a.states) ∧ w.cell? ⟨b, off + k * 5 + 2, none⟩ = some (.slice A1 a.accept.length c1) ∧
    w.cell? ⟨b, off + k * 5 + 3, none⟩ = some (.slice A2 a.leaves.length c2) ∧ w.cell? ⟨b, off + k * 5 + 4, none⟩ = some (.slice A3 a.branches.length c3) ∧
    Sl w B 1 encI A1 a.accept ∧ Sl w B 2 encL A2 a.leaves ∧ Sl w B 4 encBr A3 a.branches)
theorem TAs.keep {w w' : World} {B B' : Nat} {A : Option Addr} {l : List TA} (h : TAs w B A l) (hk : ∀ p : Addr, p.block < B → w'.cell? p = w.cell? p) (hB : B ≤ B') : TAs w' B' A l :=
  ⟨h.1, fun hn => by
    obtain ⟨b, off, e, hb, hc⟩ := h.2 hn
    refine ⟨b, off, e, by omega, fun k a hk' => ?_⟩
    obtain ⟨A1, c1, A2, c2, A3, c3, q0, q1, q2, q3, q4, s1, s2, s3⟩ := hc k a hk'
    exact ⟨A1, c1, A2, c2, A3, c3, (hk _ hb).trans q0, (hk _ hb).trans q1, (hk _ hb).trans q2, (hk _ hb).trans q3, (hk _ hb).trans q4, s1.keep hk hB, s2.keep hk hB, s3.keep hk hB⟩⟩
theorem TAs.at {w : World} {B : Nat} {A : Option Addr} {l : List TA} (h : TAs w B A l) {k : Nat} (hk : k < l.length) : ∃ b off a A1 c1 A2 c2 A3 c3, A = some ⟨b, off, none⟩ ∧ b < B ∧ l[k]? = some a ∧
    w.cell? ⟨b, off + k * 5, none⟩ = some (.int .i64 a.letters) ∧ w.cell? ⟨b, off + k * 5 + 1, none⟩ = some (.int .i64 a.states) ∧ w.cell? ⟨b, off + k * 5 + 2, none⟩ = some (.slice A1 a.accept.length c1) ∧
    w.cell? ⟨b, off + k * 5 + 3, none⟩ = some (.slice A2 a.leaves.length c2) ∧ w.cell? ⟨b, off + k * 5 + 4, none⟩ = some (.slice A3 a.branches.length c3) ∧
    Sl w B 1 encI A1 a.accept ∧ Sl w B 2 encL A2 a.leaves ∧ Sl w B 4 encBr A3 a.branches := by
  obtain ⟨b, off, e, hb, hc⟩ := h.2 (by rintro rfl; simp at hk)
  obtain ⟨a, ha⟩ := get_lt hk
  obtain ⟨A1, c1, A2, c2, A3, c3, r⟩ := hc k a ha
  exact ⟨b, off, a, A1, c1, A2, c2, A3, c3, e, hb, ha, r⟩

/-- What check asks. -/
def chkL (l : List TA) : Bool := l.all TA.valid && l.all fun a => decide (a.letters = (l.headD ⟨0, 0, [], [], []⟩).letters)

set_option maxHeartbeats 8000000 in
set_option maxRecDepth 100000 in
theorem check_any {w : World} {c : Nat} {A : Option Addr} {l : List TA} (h : TAs w w.heap.size A l) :
    Calls Try.prog 85 #[.slice A l.length c] w (Ret fun r w' => r = .int .i64 (errno (chkL l)) ∧ Below w.heap.size w w') := by
  have hn := h.1
  go_enter Try.func85, Try.ntmps85
  go_wp2_with fail
  go_loopw [10] (fun ii wr => ∃ (k : Nat), ii = .int .i64 (k : Int) ∧ k ≤ l.length ∧ Below w.heap.size w wr ∧ Hid ((l.take k).all TA.valid = true)) (fun ii _ => l.length - (intOf ii).toNat)
  case atStart => exact ⟨0, rfl, Nat.zero_le _, Below.refl _ _, rfl⟩
  case round =>
    obtain ⟨k, rfl, hk, hB, hV⟩ := hrel
    by_cases hlt : k < l.length
    · obtain ⟨b, off, a, A1, c1, A2, c2, A3, c3, rfl, hb, ha, q0, q1, q2, q3, q4, s1, s2, s3⟩ := h.at hlt
      have q0' := (hB.cell (by exact hb)).trans q0
      have q1' := (hB.cell (by exact hb)).trans q1
      have q2' := (hB.cell (by exact hb)).trans q2
      have q3' := (hB.cell (by exact hb)).trans q3
      have q4' := (hB.cell (by exact hb)).trans q4
      obtain ⟨w2, hw2, hb2, hB2, hk2⟩ := box_blk wr #[.int .i64 a.letters, .int .i64 a.states, .slice A1 a.accept.length c1, .slice A2 a.leaves.length c2, .slice A3 a.branches.length c3] 26
      have hszr := hB.size
      have hb02 := hB.trans (hb2.mono hszr)
      have hT : IsTA w2 w2.heap.size (.agg #[.int .i64 a.letters, .int .i64 a.states, .slice A1 a.accept.length c1, .slice A2 a.leaves.length c2, .slice A3 a.branches.length c3]) a :=
        IsTA.keep ⟨A1, c1, A2, c2, A3, c3, rfl, s1, s2, s3⟩ (fun _ hp => hb02.cell hp) hb02.size
      have hHT := hide hT
      have hcb := hB2.cell
      have hH02 := hide hb02
      have hsz02 := hb02.size
      have hA := hide ha
      clear q0 q1 q2 q3 q4 s1 s2 s3 hT ha
      cases hv : a.valid
      · have hVV := hide hv
        clear hv
        go_wp2_with (go_at_call 18; refine (validate_any _ _ _ hHT.out).mono ?_; rintro e w3 ⟨rfl, hb3⟩; rw [hVV.out]; simp only [errno]; have hb33 := hide hb3; clear hb3)
        go_ret
        refine ⟨?_, hH02.out.trans (hb33.out.mono hsz02)⟩
        have : chkL l = false := by
          unfold chkL
          have h1 : l.all TA.valid = false := List.all_eq_false.2 ⟨a, List.mem_of_getElem? hA.out, by rw [hVV.out]; simp⟩
          rw [h1]
          rfl
        rw [this]
        rfl
      · have hVV := hide hv
        clear hv
        go_wp2_with (go_at_call 18; refine (validate_any _ _ _ hHT.out).mono ?_; rintro e w3 ⟨rfl, hb3⟩; rw [hVV.out]; simp only [errno]; have hb33 := hide hb3; clear hb3)
        refine ⟨⟨k + 1, by go_num, by omega, hH02.out.trans (hb33.out.mono hsz02), ?_⟩, by simp [intOf]; omega⟩
        exact all_take_succ hA.out hV.out hVV.out
    · have hVA : Hid (l.all TA.valid = true) := by
        have := hV.out
        rwa [List.take_of_length_le (by omega)] at this
      have hHB := hide hB
      go_wp2_with fail
      obtain ⟨wa, hwa⟩ : ∃ wa : World, wa = wr := ⟨_, rfl⟩
      have hBa := hide hB
      go_loopw [22] (fun ii ws => ∃ (k : Nat), ii = .int .i64 (k : Int) ∧ k ≤ l.length ∧ Below w.heap.size w ws ∧ Hid ((l.take k).all (fun a => decide (a.letters = (l.headD ⟨0, 0, [], [], []⟩).letters)) = true)) (fun ii _ => l.length - (intOf ii).toNat)
      case atStart => exact ⟨0, rfl, Nat.zero_le _, hB, rfl⟩
      case round =>
        obtain ⟨k', rfl, hk', hB', hV'⟩ := hrel
        by_cases hlt' : k' < l.length
        · obtain ⟨b, off, a, A1, c1, A2, c2, A3, c3, rfl, hb, ha, q0, q1, q2, q3, q4, s1, s2, s3⟩ := h.at hlt'
          obtain ⟨b0, off0, a0, A10, c10, A20, c20, A30, c30, e0, hb0, ha0, p0, -⟩ := h.at (k := 0) (by omega)
          have e0 := Option.some.inj e0
          injection e0 with e0 e1 _
          subst e0 e1
          have q0' := (hB'.cell (by exact hb)).trans q0
          have q1' := (hB'.cell (by exact hb)).trans q1
          have q2' := (hB'.cell (by exact hb)).trans q2
          have q3' := (hB'.cell (by exact hb)).trans q3
          have q4' := (hB'.cell (by exact hb)).trans q4
          have hhead : l.headD ⟨0, 0, [], [], []⟩ = a0 := by
            cases l with
            | nil => simp at ha0
            | cons x xs => simp at ha0; simp [ha0]
          rw [Nat.zero_mul, Nat.add_zero] at p0
          obtain ⟨w2, hw2, hb2, hB2, hk2⟩ := box_blk wr #[.int .i64 a.letters, .int .i64 a.states, .slice A1 a.accept.length c1, .slice A2 a.leaves.length c2, .slice A3 a.branches.length c3] 26
          have hszr := hB'.size
          have hb02 := hB'.trans (hb2.mono hszr)
          have p0' := (hb02.cell (by exact hb)).trans p0
          have hcb := hB2.cell
          have hst := hide (hb02.trans ((drew_below w2).mono hb02.size))
          have hA := hide ha
          have hHD := hide hhead
          clear q0 q1 q2 q3 q4 s1 s2 s3 ha ha0 p0 hhead
          by_cases he : a.letters = a0.letters
          · have heq : (a.letters == a0.letters) = true := by simp [he]
            have hE := hide he
            clear he
            go_wp2_with fail
            refine Reg.region_plain [0, 1, 0, 4, 12, 28, 63] (by kernel_rfl) (by repeat (first | exact Reg.NoQ.body (fun _ _ h => h) (fun _ h => h) | refine Reg.NoQ.then ?_ | refine Reg.NoQ.inBlock ?_)) ?_
            go_wp2_with fail
            refine ⟨⟨k' + 1, by go_num, by omega, hst.out, ?_⟩, by simp [intOf]; omega⟩
            exact all_take_succ hA.out hV'.out (by rw [hHD.out]; simpa using hE.out)
          · have heq : (a.letters == a0.letters) = false := by simpa using he
            have hE := hide he
            clear he
            go_wp2_with fail
            refine Reg.region_plain [0, 1, 0, 4, 12, 28, 63] (by kernel_rfl) (by repeat (first | exact Reg.NoQ.body (fun _ _ h => h) (fun _ h => h) | refine Reg.NoQ.then ?_ | refine Reg.NoQ.inBlock ?_)) ?_
            go_wp2_with fail
            go_ret
            refine ⟨?_, hst.out⟩
            have : chkL l = false := by
              unfold chkL
              rw [hHD.out]
              have h1 : (l.all fun a => decide (a.letters = a0.letters)) = false := List.all_eq_false.2 ⟨a, List.mem_of_getElem? hA.out, by simpa using hE.out⟩
              rw [h1, Bool.and_false]
            rw [this]
            rfl
        · go_wp2_with fail
          go_ret
          refine ⟨?_, hB'⟩
          have : chkL l = true := by
            unfold chkL
            have h1 := hV'.out
            rw [List.take_of_length_le (by omega)] at h1
            rw [h1, hVA.out]
            rfl
          rw [this]
          rfl
end Go.Proofs.Ytnimlcbgeiajiaa

namespace Go.Proofs.Ytnimlcbgeiajiaa
open Go.RowKit

set_option maxHeartbeats 4000000 in
set_option maxRecDepth 100000 in
theorem index_any {w : World} {base c : Nat} {A : Option Addr} {ac : List Bool} (h : w.ownsRow base 4 1 (.slice A ac.length c) ac.length (ac.map .bool)) (hn : ac.length ≤ 100000) :
    Calls Try.prog 111 #[.slice A ac.length c, .bool true] w fun e w' => (∃ x : Int, e = .returned (.int .i64 x) ∧ (0 ≤ x ↔ true ∈ ac)) ∧ w = w' := by
  have hH := hide h
  clear h
  go_enter Try.func111, Try.ntmps111
  go_wp2_with fail
  go_loop [8] (fun ii => ∃ (k : Nat), ii = .int .i64 (k : Int) ∧ k ≤ ac.length ∧ Hid (∀ j, j < k → ac[j]? = some false)) (fun ii => ac.length - (intOf ii).toNat)
  case atStart => exact ⟨0, rfl, Nat.zero_le _, fun j hj => absurd hj (by omega)⟩
  case round =>
    obtain ⟨k, rfl, hk, hE⟩ := hrel
    by_cases hlt : k < ac.length
    · obtain ⟨b, hb⟩ := get_lt hlt
      obtain ⟨g, cap, hg, hc⟩ := own_get hH.out (map_get (f := Value.bool) hb)
      injection hg with hg _ hcc
      subst hg hcc
      have hB := hide hb
      clear hb
      cases b
      · go_wp2_with fail
        refine ⟨⟨k + 1, by go_num, by omega, fun j hj => ?_⟩, by simp [intOf]; omega⟩
        by_cases e : j = k
        · subst e; exact hB.out
        · exact hE.out j (by omega)
      · go_wp2_with fail
        go_ret
        refine ⟨⟨_, rfl, ?_⟩, rfl⟩
        exact ⟨fun _ => List.mem_of_getElem? hB.out, fun _ => by omega⟩
    · go_wp2_with fail
      go_ret
      refine ⟨⟨_, rfl, ?_⟩, rfl⟩
      constructor
      · intro h; omega
      · intro h
        obtain ⟨j, hj⟩ := List.mem_iff_getElem?.1 h
        have h2 := hE.out j (by have := lt_of_get hj; omega)
        rw [hj] at h2
        cases h2

set_option maxHeartbeats 4000000 in
theorem contains_any {w : World} {base c : Nat} {A : Option Addr} {ac : List Bool} (h : w.ownsRow base 4 1 (.slice A ac.length c) ac.length (ac.map .bool)) (hn : ac.length ≤ 100000) :
    Calls Try.prog 93 #[.slice A ac.length c, .bool true] w fun e w' => e = .returned (.bool (decide (true ∈ ac))) ∧ w = w' := by
  go_enter Try.func93, Try.ntmps93
  go_wp2_with fail
  refine (index_any h hn).mono ?_
  rintro e w' ⟨⟨x, rfl, hx⟩, rfl⟩
  by_cases h0 : (0 : Int) ≤ x
  · have hm := hide (decide_eq_true (hx.1 h0))
    clear hx
    go_wp2_with fail
    go_ret
    exact ⟨by rw [hm.out]; simp, rfl⟩
  · have hm := hide (decide_eq_false fun hh => h0 (hx.2 hh))
    clear hx
    go_wp2_with fail
    go_ret
    exact ⟨by rw [hm.out]; simp [h0], rfl⟩

set_option maxHeartbeats 4000000 in
theorem empty_any {w : World} {base gM L : Nat} {va vl vb : Value} {ac : List Bool} {lf : List Nat} {t : List (List (List Nat))} (hM : MachA w base gM L va vl vb ac lf t) (hn : ac.length ≤ 100000) :
    Calls Try.prog 68 #[.pointer (some ⟨gM, 0, none⟩)] w fun e w' => e = .returned (.bool (!decide (true ∈ ac))) ∧ w = w' := by
  obtain ⟨A, c, rfl⟩ := slice_of_own hM.acc
  have hcm := hM.blk.cell
  go_enter Try.func68, Try.ntmps68
  go_wp2_with fail
  refine (contains_any hM.acc hn).mono ?_
  rintro e w' ⟨rfl, rfl⟩
  cases hd : decide (true ∈ ac)
  all_goals
    go_wp2_with fail
    go_ret
    exact ⟨by simp; simpa using hd, rfl⟩

/-- The three operations. -/
theorem op_any {f j : Nat} (hf : f = 62 ∧ j = 86 ∨ f = 64 ∧ j = 87 ∨ f = 66 ∧ j = 88) (w : World) : Calls Try.prog f #[] w (Ret fun v w' => v = .agg #[.func (.func j) #[] #[]] ∧ Below w.heap.size w w') := by
  obtain ⟨w1, hw1, hb1, hB1, hk1⟩ := box_blk w #[.nilFunc] 90
  have hc := hB1.cell
  have hfr := hB1.frozen
  have hl := hB1.lt
  rcases hf with ⟨rfl, rfl⟩ | ⟨rfl, rfl⟩ | ⟨rfl, rfl⟩
  · go_enter Try.func62, Try.ntmps62
    go_wp2_with fail
    have hgF := hB1.set_ 0 (.func (.func 86) #[] #[])
    have hkF : Kept w1 (w1.setCell ⟨w.heap.size, 0, none⟩ (.func (.func 86) #[] #[])) (fun k => k = w.heap.size) := (Kept.refl w1 (fun k => k = w.heap.size)).setCell (p := ⟨w.heap.size, 0, none⟩) (fun _ => rfl) _
    generalize w1.setCell ⟨w.heap.size, 0, none⟩ (.func (.func 86) #[] #[]) = wF at *
    have hcF := hgF.cell
    exact bodyPost_ret (v := .agg #[.func (.func 86) #[] #[]]) (by simp [results, Try.results62, go_sem, hcF]) rfl ⟨rfl, hb1.trans (hkF.below hb1.size fun b hb e => by omega)⟩
  · go_enter Try.func64, Try.ntmps64
    go_wp2_with fail
    have hgF := hB1.set_ 0 (.func (.func 87) #[] #[])
    have hkF : Kept w1 (w1.setCell ⟨w.heap.size, 0, none⟩ (.func (.func 87) #[] #[])) (fun k => k = w.heap.size) := (Kept.refl w1 (fun k => k = w.heap.size)).setCell (p := ⟨w.heap.size, 0, none⟩) (fun _ => rfl) _
    generalize w1.setCell ⟨w.heap.size, 0, none⟩ (.func (.func 87) #[] #[]) = wF at *
    have hcF := hgF.cell
    exact bodyPost_ret (v := .agg #[.func (.func 87) #[] #[]]) (by simp [results, Try.results64, go_sem, hcF]) rfl ⟨rfl, hb1.trans (hkF.below hb1.size fun b hb e => by omega)⟩
  · go_enter Try.func66, Try.ntmps66
    go_wp2_with fail
    have hgF := hB1.set_ 0 (.func (.func 88) #[] #[])
    have hkF : Kept w1 (w1.setCell ⟨w.heap.size, 0, none⟩ (.func (.func 88) #[] #[])) (fun k => k = w.heap.size) := (Kept.refl w1 (fun k => k = w.heap.size)).setCell (p := ⟨w.heap.size, 0, none⟩) (fun _ => rfl) _
    generalize w1.setCell ⟨w.heap.size, 0, none⟩ (.func (.func 88) #[] #[]) = wF at *
    have hcF := hgF.cell
    exact bodyPost_ret (v := .agg #[.func (.func 88) #[] #[]]) (by simp [results, Try.results66, go_sem, hcF]) rfl ⟨rfl, hb1.trans (hkF.below hb1.size fun b hb e => by omega)⟩

/-- What pair returns. -/
def PairR (w' : World) (base : Nat) (a b : TA) (r : Value) : Prop :=
  (chkL [a, b] = false ∧ ∃ x y, r = .tuple #[x, y, .int .i64 1]) ∨
  (chkL [a, b] = true ∧ (a.Large ∨ b.Large) ∧ ∃ x y, r = .tuple #[x, y, .int .i64 4]) ∨
  (chkL [a, b] = true ∧ ¬ a.Large ∧ ¬ b.Large ∧ ∃ gM ac lf t gN ac' lf' t', r = .tuple #[.pointer (some ⟨gM, 0, none⟩), .pointer (some ⟨gN, 0, none⟩), .int .i64 0] ∧
    Mach w' base gM a.letters.toNat ac lf t ∧ MOK a.letters.toNat ac lf t ∧ ac.length ≤ 64 ∧ Canon a.letters.toNat ac.length (mleaf lf) (mbr t) (macc ac) a.lang ∧
    Mach w' base gN a.letters.toNat ac' lf' t' ∧ MOK a.letters.toNat ac' lf' t' ∧ ac'.length ≤ 64 ∧ Canon a.letters.toNat ac'.length (mleaf lf') (mbr t') (macc ac') b.lang)
theorem chk2 {a b : TA} : chkL [a, b] = true ↔ a.valid = true ∧ b.valid = true ∧ b.letters = a.letters := by
  simp [chkL, and_assoc]
theorem Mach.keep0 {w w' : World} {base gM L : Nat} {ac : List Bool} {lf : List Nat} {t : List (List (List Nat))} (h : Mach w base gM L ac lf t) (hk : Kept w w' (fun _ => False)) : Mach w' base gM L ac lf t := by
  obtain ⟨va, vl, vb, h⟩ := h
  exact ⟨va, vl, vb, h.keep hk fun _ _ _ h => h.elim⟩

set_option maxHeartbeats 8000000 in
set_option maxRecDepth 100000 in
theorem pair_any {v v' : Value} {a b : TA} {w : World} (h : IsTA w w.heap.size v a) (h' : IsTA w w.heap.size v' b) (ha : a.branches.length ≤ 900000) (hb : b.branches.length ≤ 900000) :
    Calls Try.prog 65 #[v, v'] w (Ret fun r w' => Below w.heap.size w w' ∧ PairR w' w.heap.size a b r) := by
  obtain ⟨A1, c1, A2, c2, A3, c3, rfl, h1, h2, h3⟩ := h
  obtain ⟨A4, c4, A5, c5, A6, c6, rfl, h4, h5, h6⟩ := h'
  obtain ⟨w1, hw1, hb1, hB1, hk1⟩ := box_blk w #[.int .i64 a.letters, .int .i64 a.states, .slice A1 a.accept.length c1, .slice A2 a.leaves.length c2, .slice A3 a.branches.length c3] 26
  obtain ⟨w2, hw2, hb2, hB2, hk2⟩ := box_blk w1 #[.int .i64 b.letters, .int .i64 b.states, .slice A4 b.accept.length c4, .slice A5 b.leaves.length c5, .slice A6 b.branches.length c6] 26
  obtain ⟨w3, hw3, hb3, hB3, hk3⟩ := box_blk w2 #[.int .i64 a.letters, .int .i64 a.states, .slice A1 a.accept.length c1, .slice A2 a.leaves.length c2, .slice A3 a.branches.length c3, .int .i64 b.letters, .int .i64 b.states, .slice A4 b.accept.length c4, .slice A5 b.leaves.length c5, .slice A6 b.branches.length c6] 26
  have z1 := hb1.size
  have z2 := hb2.size
  have z3 := hb3.size
  have hb03 := (hb1.trans (hb2.mono z1)).trans (hb3.mono (by omega))
  have hcb1 := (hB1.kept hk2 id).cell
  have hcb2 := hB2.cell
  have hT : IsTA w3 w3.heap.size (.agg #[.int .i64 a.letters, .int .i64 a.states, .slice A1 a.accept.length c1, .slice A2 a.leaves.length c2, .slice A3 a.branches.length c3]) a :=
    IsTA.keep ⟨A1, c1, A2, c2, A3, c3, rfl, h1, h2, h3⟩ (fun _ hp => hb03.cell hp) hb03.size
  have hT' : IsTA w3 w3.heap.size (.agg #[.int .i64 b.letters, .int .i64 b.states, .slice A4 b.accept.length c4, .slice A5 b.leaves.length c5, .slice A6 b.branches.length c6]) b :=
    IsTA.keep ⟨A4, c4, A5, c5, A6, c6, rfl, h4, h5, h6⟩ (fun _ hp => hb03.cell hp) hb03.size
  have hTAs : TAs w3 w3.heap.size (some ⟨w2.heap.size, 0, none⟩) [a, b] := by
    refine ⟨by simp, fun _ => ⟨w2.heap.size, 0, rfl, hB3.lt, fun k x hx => ?_⟩⟩
    have hk : ∀ p : Addr, p.block < w.heap.size → w3.cell? p = w.cell? p := fun p hp => hb03.cell hp
    match k, hx with
    | 0, hx =>
      simp at hx
      subst hx
      exact ⟨A1, c1, A2, c2, A3, c3, hB3.cell 0, hB3.cell 1, hB3.cell 2, hB3.cell 3, hB3.cell 4, h1.keep hk hb03.size, h2.keep hk hb03.size, h3.keep hk hb03.size⟩
    | 1, hx =>
      simp at hx
      subst hx
      exact ⟨A4, c4, A5, c5, A6, c6, hB3.cell 5, hB3.cell 6, hB3.cell 7, hB3.cell 8, hB3.cell 9, h4.keep hk hb03.size, h5.keep hk hb03.size, h6.keep hk hb03.size⟩
    | k + 2, hx => simp at hx
  have hHT := hide hT
  have hHT' := hide hT'
  have hHS := hide hTAs
  have hH03 := hide hb03
  have hB13 := (hB1.kept hk2 id).kept hk3 id
  have hB23 := hB2.kept hk3 id
  have hbsz := hide hb03.size
  clear h1 h2 h3 h4 h5 h6 hT hT' hTAs hb03 z1 z2 z3
  go_enter Try.func65, Try.ntmps65
  go_wp2_with fail
  have hck := check_any (c := 2) hHS.out
  simp only [List.length_cons, List.length_nil] at hck
  refine Calls.ret hck ?_
  clear hck
  rintro v w4 ⟨rfl, hb4⟩
  have hb04 : Below w.heap.size w w4 := hH03.out.trans (hb4.mono hbsz.out)
  have z4 := hb4.size
  have hB14 := hB13.kept (Kept.of_below hb4 (fun _ => False)) id
  have hB24 := hB23.kept (Kept.of_below hb4 (fun _ => False)) id
  have hcb4 := hB14.cell
  have hdb4 := hB24.cell
  have hT4 := hide (hHT.out.keep (fun _ hp => hb4.cell hp) z4)
  have hT4' := hide (hHT'.out.keep (fun _ hp => hb4.cell hp) z4)
  have hH04 := hide hb04
  have hbs4 := hide hb04.size
  cases hc : chkL [a, b] with
  | false =>
    simp only [errno]
    have hC := hide hc
    clear hc hb04 hb4 z4 hcb1 hcb2
    go_wp2_with fail
    exact bodyPost_ret (v := .tuple #[.pointer none, .pointer none, .int .i64 1]) (by simp [results, Try.results65, go_sem]) rfl ⟨hH04.out, .inl ⟨hC.out, _, _, rfl⟩⟩
  | true =>
    simp only [errno]
    have hC := hide hc
    obtain ⟨hva, hvb, hlab⟩ := chk2.1 hc
    have hVA := hide hva
    have hVB := hide hvb
    have hLAB := hide hlab
    clear hc hb04 hb4 z4 hcb1 hcb2 hva hvb hlab
    go_wp2_with fail
    refine Calls.ret (treeMin_any _ a w4 hT4.out hVA.out ha) ?_
    rintro v w5 ⟨hb5, hres5⟩
    have hH05 := hide (hH04.out.trans (hb5.mono hbs4.out))
    have z5 := hide hb5.size
    have hdb5 := (hB24.kept (Kept.of_below hb5 (fun _ => False)) id).cell
    have hT5' := hide (hT4'.out.keep (fun _ hp => hb5.cell hp) z5.out)
    rcases hres5 with ⟨rfl, hlg⟩ | ⟨gM, ac, lf, t, rfl, hgM, hM, hok, h64, hnl, hcan⟩
    · have hLG := hide hlg
      clear hlg hb5
      go_wp2_with fail
      exact bodyPost_ret (v := .tuple #[.pointer none, .pointer none, .int .i64 4]) (by simp [results, Try.results65, go_sem]) rfl ⟨hH05.out, .inr (.inl ⟨hC.out, .inl hLG.out, _, _, rfl⟩)⟩
    · have hMM := hide hM
      have hOO := hide hok
      have hNL := hide hnl
      have hCN := hide hcan
      clear hM hok hnl hcan hb5
      go_wp2_with fail
      refine Calls.ret (treeMin_any _ b w5 hT5'.out hVB.out hb) ?_
      rintro v w6 ⟨hb6, hres6⟩
      have hH06 := hide (hH05.out.trans (hb6.mono hH05.out.size))
      have hM6 := hide (hMM.out.keep0 (Kept.of_below hb6 (fun _ => False)))
      have hbs5 := hide hH05.out.size
      rcases hres6 with ⟨rfl, hlg⟩ | ⟨gN, ac', lf', t', rfl, hgN, hN, hok', h64', hnl', hcan'⟩
      · have hLG := hide hlg
        clear hlg hb6
        go_wp2_with fail
        exact bodyPost_ret (v := .tuple #[.pointer (some ⟨gM, 0, none⟩), .pointer none, .int .i64 4]) (by simp [results, Try.results65, go_sem]) rfl ⟨hH06.out, .inr (.inl ⟨hC.out, .inr hLG.out, _, _, rfl⟩)⟩
      · have hNN := hide hN
        have hOO' := hide hok'
        have hNL' := hide hnl'
        have hCN' := hide hcan'
        clear hN hok' hnl' hcan' hb6
        go_wp2_with fail
        refine bodyPost_ret (v := .tuple #[.pointer (some ⟨gM, 0, none⟩), .pointer (some ⟨gN, 0, none⟩), .int .i64 0]) (by simp [results, Try.results65, go_sem]) rfl ⟨hH06.out, .inr (.inr ⟨hC.out, hNL.out, hNL'.out, gM, ac, lf, t, gN, ac', lf', t', rfl, hM6.out.weak hbs4.out, hOO.out, h64, hCN.out, ?_⟩)⟩
        rw [← hLAB.out]
        exact ⟨hNN.out.weak hbs5.out, hOO'.out, h64', hCN'.out⟩
end Go.Proofs.Ytnimlcbgeiajiaa
