/-
  The reference's sets of states: lists of marks; sameMarks and sets.number: the walks.
  The reference's leaf, branch and meets: the walks; the lists of marks that they give.
  tree.leafSet and tree.branchSet: the walks.
  A tree from its preorder, from the last node to the first: the stack of subtrees. Plain Lean. tree.Accepts: the walk.
  Smallest trees, plainly: sizes that a fixed point of rounds has; the tree that is written; its preorder. Plain Lean.
  tree.Accepts: the walk.
  The canonical automaton as an automaton: it is valid, has the same language, is not large, and is its own canonical automaton. Plain Lean, and its memory.
  What Minimal returns, by relation: the program's and the document's results are the same.
  The reference's Validate: the walk; what it answers is the function TA.valid of the automaton's data.
  The reference's ValidTree with IsShape: the walks.
  The reference's accepts: marks and words say the same (plain), and the walk.
-/
import Derived.Test.YtnimlcbgeiajiaaQD
import Derived.Test.YtnimlcbgeiajiaaQC

namespace Go.Proofs.Ytnimlcbgeiajiaa
open Go.RowKit

/-- A slice of marks, all of it in a block below B. -/
def Marks (w : World) (B S : Nat) (u : Value) (m : List Bool) : Prop := ∃ g, g < B ∧ u = .slice (some ⟨g, 0, none⟩) S S ∧ Blk w g 4 (m.map Value.bool).toArray ∧ m.length = S
theorem Marks.keep {w w' : World} {X : Nat → Prop} {B S : Nat} {u : Value} {m : List Bool} (h : Marks w B S u m) (hk : Kept w w' X) (hX : ∀ g cs, X g → g < B → ¬ Blk w g 4 cs) : Marks w' B S u m := by
  obtain ⟨g, h1, h2, h3, h4⟩ := h
  exact ⟨g, h1, h2, h3.kept hk fun hx => hX g _ hx h1 h3, h4⟩
theorem Marks.keep0 {w w' : World} {B S : Nat} {u : Value} {m : List Bool} (h : Marks w B S u m) (hk : Kept w w' (fun _ => False)) : Marks w' B S u m := h.keep hk fun _ _ h => h.elim
theorem Marks.mono {w : World} {B B' S : Nat} {u : Value} {m : List Bool} (h : Marks w B S u m) (hB : B ≤ B') : Marks w B' S u m := by
  obtain ⟨g, h1, h2, h3, h4⟩ := h
  exact ⟨g, by omega, h2, h3, h4⟩
theorem Marks.cell {w : World} {g : Nat} {m : List Bool} (h : Blk w g 4 (m.map Value.bool).toArray) {i : Nat} {b : Bool} (hi : m[i]? = some b) : w.cell? ⟨g, i, none⟩ = some (.bool b) := by
  rw [h.cell]
  simp [hi]

set_option maxHeartbeats 2000000 in
set_option maxRecDepth 100000 in
theorem sameMarks_any {w : World} {B1 B2 S : Nat} {u1 u2 : Value} {m1 m2 : List Bool} (h1 : Marks w B1 S u1 m1) (h2 : Marks w B2 S u2 m2) (hS : S ≤ 100000) :
    Calls Try.prog 114 #[u1, u2] w (Ret fun v w' => v = .bool (decide (m1 = m2)) ∧ Below w.heap.size w w') := by
  obtain ⟨g1, hg1, rfl, hb1, hl1⟩ := h1
  obtain ⟨g2, hg2, rfl, hb2, hl2⟩ := h2
  have hL1 := hide hl1
  have hL2 := hide hl2
  clear hl1 hl2
  go_enter Try.func114, Try.ntmps114
  go_wp2_with fail
  go_loopw [5] (fun ii wr => ∃ (i : Nat), ii = .int .i64 (i : Int) ∧ i ≤ S ∧ Below w.heap.size w wr ∧ Hid (∀ j, j < i → m1[j]? = m2[j]?)) (fun ii _ => S - (intOf ii).toNat)
  case atStart => exact ⟨0, rfl, Nat.zero_le _, Below.refl _ _, fun j hj => absurd hj (by omega)⟩
  case round =>
    obtain ⟨i, rfl, hi, hB, hE⟩ := hrel
    by_cases hlt : i < S
    · obtain ⟨b1, e1⟩ := get_lt (l := m1) (i := i) (by rw [hL1.out]; exact hlt)
      obtain ⟨b2, e2⟩ := get_lt (l := m2) (i := i) (by rw [hL2.out]; exact hlt)
      have hK := Kept.of_below hB (fun _ => False)
      have hc1 := Marks.cell (hb1.kept hK id) e1
      have hc2 := Marks.cell (hb2.kept hK id) e2
      have hst := hide (hB.trans ((drew_below wr).mono hB.size))
      have he1 := hide e1
      have he2 := hide e2
      clear e1 e2
      go_wp2_with fail
      refine Reg.region_plain [0, 0, 3, 7, 0, 0, 48, 112, 255] (by kernel_rfl) (by repeat (first | exact Reg.NoQ.body (fun _ _ h => h) (fun _ h => h) | refine Reg.NoQ.then ?_ | refine Reg.NoQ.inBlock ?_)) ?_
      cases b1 <;> cases b2
      all_goals
        go_wp2_with fail
        first
        | (refine ⟨⟨i + 1, by simp, by omega, hst.out, fun j hj => ?_⟩, by simp [intOf]; omega⟩
           by_cases hji : j = i
           · subst hji
             rw [he1.out, he2.out]
           · exact hE.out j (by omega))
        | (go_ret
           refine ⟨congrArg Value.bool (decide_eq_false fun e => ?_).symm, hst.out⟩
           have h1 := he1.out
           rw [e, he2.out] at h1
           cases h1)
    · go_wp2_with fail
      go_ret
      refine ⟨congrArg Value.bool (decide_eq_true (List.ext_getElem? fun j => ?_)).symm, hB⟩
      by_cases hj : j < S
      · exact hE.out j (by omega)
      · rw [List.getElem?_eq_none (by rw [hL1.out]; omega), List.getElem?_eq_none (by rw [hL2.out]; omega)]

/-- The sets that have been met: the struct in block gs, its list the slice va. -/
structure SetsS (w : World) (base B S gs : Nat) (va : Value) (us : List Value) (rows : List (List Bool)) : Prop where
  blk : Blk w gs 145 #[va]
  len : us.length = rows.length
  own : w.ownsRow base 79 1 va rows.length us
  row : ∀ (i : Nat) (u : Value) (m : List Bool), us[i]? = some u → rows[i]? = some m → Marks w B S u m
theorem SetsS.keep {w w' : World} {X : Nat → Prop} {base B S gs : Nat} {va : Value} {us : List Value} {rows : List (List Bool)} (h : SetsS w base B S gs va us rows) (hk : Kept w w' X) (h145 : ¬ X gs) (hva : ∀ g, va.ownBlock = some g → ¬ X g) (h4 : ∀ g cs, X g → g < B → ¬ Blk w g 4 cs) : SetsS w' base B S gs va us rows :=
  ⟨h.blk.kept hk h145, h.len, hk.ownsRow h.own hva, fun i u m hu hm => (h.row i u m hu hm).keep hk h4⟩
theorem SetsS.keep0 {w w' : World} {base B S gs : Nat} {va : Value} {us : List Value} {rows : List (List Bool)} (h : SetsS w base B S gs va us rows) (hk : Kept w w' (fun _ => False)) : SetsS w' base B S gs va us rows := h.keep hk id (fun _ _ => id) (fun _ _ h => h.elim)
theorem SetsS.mono {w : World} {base B B' S gs : Nat} {va : Value} {us : List Value} {rows : List (List Bool)} (h : SetsS w base B S gs va us rows) (hB : B ≤ B') : SetsS w base B' S gs va us rows := ⟨h.blk, h.len, h.own, fun i u m hu hm => (h.row i u m hu hm).mono hB⟩
theorem info79 : (Try.prog.info? 79).map (fun i => (i.zero, i.size, i.bytes)) = some (some (.slice none 0 0), 1, 24) := by kernel_rfl
theorem row111 : RowTy Try.prog 111 79 1 := rowTy_of Try.underlying111 info79 rfl (by omega) (by omega)
theorem idxOf_first {D : Type} [DecidableEq D] {l : List D} {i : Nat} {s : D} (hi : l[i]? = some s) (h : ∀ j, j < i → l[j]? ≠ some s) : numL l s = i := by
  unfold numL
  induction l generalizing i with
  | nil => simp at hi
  | cons x xs ih =>
    by_cases hx : x = s
    · subst hx
      cases i with
      | zero => simp
      | succ i => exact absurd rfl (h 0 (by omega))
    · have hb : (x == s) = false := by simpa using hx
      cases i with
      | zero => exact absurd (by simpa using hi) hx
      | succ i =>
        rw [List.idxOf_cons, hb]
        simp only [cond_false]
        rw [ih (i := i) (by simpa using hi) (fun j hj => by simpa using h (j + 1) (by omega))]

set_option maxHeartbeats 4000000 in
set_option maxRecDepth 100000 in
theorem setsNumber_any {w : World} {base B S gs : Nat} {va u : Value} {us : List Value} {rows : List (List Bool)} {m : List Bool} (h : SetsS w base B S gs va us rows) (hu : Marks w B S u m) (hS : S ≤ 100000) (hlen : rows.length ≤ 100000) (hbase : base ≤ w.heap.size) :
    Calls Try.prog 106 #[.pointer (some ⟨gs, 0, none⟩), u] w (Ret fun v w' => v = .int .i64 (numL (meetL rows m) m : Int) ∧ Kept w w' (fun k => k = gs ∨ va.ownBlock = some k) ∧
      ∃ va' us', SetsS w' base B S gs va' us' (meetL rows m) ∧ Moved w va va') := by
  obtain ⟨A, c, rfl⟩ := slice_of_own h.own
  have hS0 := hide h
  have hU0 := hide hu
  obtain ⟨gu, hgu, rfl, hbu, hlu⟩ := hu
  clear h hbu hlu
  go_enter Try.func106, Try.ntmps106
  go_wp2_with fail
  go_loopw [5] (fun ii wr => ∃ (i : Nat), ii = .int .i64 (i : Int) ∧ i ≤ rows.length ∧ Below w.heap.size w wr ∧ Hid (∀ j, j < i → rows[j]? ≠ some m)) (fun ii _ => rows.length - (intOf ii).toNat)
  case atStart => exact ⟨0, rfl, Nat.zero_le _, Below.refl _ _, fun j hj => absurd hj (by omega)⟩
  case round =>
    obtain ⟨i, rfl, hi, hB, hE⟩ := hrel
    have hK := Kept.of_below hB (fun _ => False)
    have hSw := hide (hS0.out.keep0 hK)
    have hcs := hSw.out.blk.cell 0
    have hfs := hSw.out.blk.frozen 0
    have hls := hSw.out.blk.lt
    have hsz := hB.size
    by_cases hlt : i < rows.length
    · obtain ⟨mi, hmi⟩ := get_lt hlt
      obtain ⟨ui, hui⟩ := get_lt (l := us) (i := i) (by rw [hSw.out.len]; exact hlt)
      obtain ⟨ga, ca, hva, hci⟩ := own_get hSw.out.own hui
      injection hva with hA _ hc
      subst hA hc
      have hMi := hide (hSw.out.row i ui mi hui hmi)
      have hMu := hide (hU0.out.keep0 hK)
      have hmi2 := hide hmi
      obtain ⟨gi, hgi, rfl, -, -⟩ := hMi.out
      clear hmi hui
      by_cases he : mi = m
      · have hd : decide (mi = m) = true := decide_eq_true he
        have heq := hide he
        clear he
        go_wp2_with (go_at_call 114; refine Calls.ret (sameMarks_any hMi.out hMu.out hS) ?_; rintro v w3 ⟨rfl, hb3⟩; rw [hd]; have hb33 := hide hb3; clear hb3)
        go_ret
        have hi2 := hmi2.out
        rw [heq.out] at hi2
        have hmem : m ∈ rows := List.mem_of_getElem? hi2
        have hme : meetL rows m = rows := by unfold meetL; rw [if_pos hmem]
        rw [hme]
        refine ⟨by rw [idxOf_first hi2 hE.out]; rfl, (Kept.of_below hB _).trans (Kept.of_below hb33.out (fun _ => False)) (fun _ _ h => h.elim), _, us, hSw.out.keep0 (Kept.of_below hb33.out (fun _ => False)), Moved.refl _ _⟩
      · have hd : decide (mi = m) = false := decide_eq_false he
        have hne := hide he
        clear he
        go_wp2_with (go_at_call 114; refine Calls.ret (sameMarks_any hMi.out hMu.out hS) ?_; rintro v w3 ⟨rfl, hb3⟩; rw [hd]; have hb33 := hide hb3; clear hb3)
        refine ⟨⟨i + 1, by simp, by omega, hB.trans (hb33.out.mono hsz), fun j hj => ?_⟩, by simp [intOf]; omega⟩
        by_cases hji : j = i
        · subst hji
          rw [hmi2.out]
          exact fun e => hne.out (Option.some.inj e)
        · exact hE.out j (by omega)
    · have e : i = rows.length := by omega
      have he := hide e
      clear e
      have hnm : m ∉ rows := fun hm => by
        obtain ⟨j, hj⟩ := List.mem_iff_getElem?.1 hm
        exact hE.out j (by rw [he.out]; exact lt_of_get hj) hj
      have hHn := hide hnm
      clear hnm
      go_wp2_with (at_builtin; refine wpList_app_new row111 rfl _ _ rfl base (.slice A rows.length c) rows.length us rfl hSw.out.own [.slice (some ⟨gu, 0, none⟩) S S] 1 rfl rfl (by simp [Value.oneCell']) (by omega) (by omega) ?_; intro g cap' w3 hown hk3 hmv3 hg3; have hb3 := hSw.out.blk.kept hk3 (fun e => own_blk_ne hSw.out.own hSw.out.blk (by decide) e); have hcs3 := hb3.cell 0; have hfs3 := hb3.frozen 0; have hls3 := hb3.lt; have hcs4 := (hb3.set_ 0 (.slice (some ⟨g, 0, none⟩) (rows.length + 1) cap')).cell 0)
      go_ret
      have hme : meetL rows m = rows ++ [m] := by unfold meetL; rw [if_neg hHn.out]
      have hks := (Kept.refl w3 (fun k => k = gs)).setCell (p := ⟨gs, 0, none⟩) (fun _ => rfl) (.slice (some ⟨g, 0, none⟩) (rows.length + 1) cap')
      have hn : ∀ (e : TypeId), e ≠ 145 → ∀ g cs, g = gs → ¬ Blk w3 g e cs := fun e he g cs eg hb => by subst eg; exact hb3.ne_ hb (fun h => he h.symm) rfl
      have hrow3 : ∀ (i : Nat) (u : Value) (m : List Bool), us[i]? = some u → rows[i]? = some m → Marks (w3.setCell ⟨gs, 0, none⟩ (.slice (some ⟨g, 0, none⟩) (rows.length + 1) cap')) B S u m := fun i u m hu hm =>
        ((hSw.out.row i u m hu hm).keep hk3 (fun g cs hx _ hb => own_blk_ne hSw.out.own hb (by decide) hx)).keep hks (fun g cs hx _ hb => hn 4 (by decide) g cs hx hb)
      have hM3 : Marks (w3.setCell ⟨gs, 0, none⟩ (.slice (some ⟨g, 0, none⟩) (rows.length + 1) cap')) B S (.slice (some ⟨gu, 0, none⟩) S S) m :=
        ((hU0.out.keep0 hK).keep hk3 (fun g cs hx _ hb => own_blk_ne hSw.out.own hb (by decide) hx)).keep hks (fun g cs hx _ hb => hn 4 (by decide) g cs hx hb)
      refine ⟨by rw [numL_new hHn.out]; simp, ?_, .slice (some ⟨g, 0, none⟩) (rows.length + 1) cap', us ++ [.slice (some ⟨gu, 0, none⟩) S S], ?_, ?_⟩
      · exact ((Kept.of_below hB (fun k => k = gs ∨ (Value.slice A rows.length c).ownBlock = some k)).trans hk3 (fun _ _ h => .inr h)).trans hks (fun _ _ h => .inl h)
      · rw [hme]
        refine ⟨by simpa using hb3.set_ 0 (.slice (some ⟨g, 0, none⟩) (rows.length + 1) cap'), by simp [hSw.out.len], ?_, fun i u m' hu hm => ?_⟩
        · have := hks.ownsRow hown (fun g' hg' e => own_blk_ne hown hb3 (by decide) (by rw [← e]; exact hg'))
          simpa using this
        · rcases Nat.lt_trichotomy i rows.length with hlt | heq | hgt
          · rw [List.getElem?_append_left (by rw [hSw.out.len]; exact hlt)] at hu
            rw [List.getElem?_append_left hlt] at hm
            exact hrow3 i u m' hu hm
          · rw [List.getElem?_append_right (by rw [hSw.out.len]; omega), hSw.out.len, heq, Nat.sub_self] at hu
            rw [List.getElem?_append_right (by omega), heq, Nat.sub_self] at hm
            have e1 := Option.some.inj hu
            have e2 := Option.some.inj hm
            subst e1 e2
            exact hM3
          · rw [List.getElem?_eq_none (by simp; omega)] at hm
            cases hm
      · exact (Moved.refl w _).trans hsz hmv3
end Go.Proofs.Ytnimlcbgeiajiaa

namespace Go.Proofs.Ytnimlcbgeiajiaa
open Go.RowKit

def bitM (s : List Bool) (q : Int) : Bool := s[q.toNat]?.getD false
def setM (m : List Bool) (q : Int) : List Bool := m.set q.toNat true
def leafF (x : Nat) (m : List Bool) (l : Leaf) : List Bool := if l.letter = (x : Int) then setM m l.to else m
def brF (x : Nat) (s t : List Bool) (m : List Bool) (b : Branch) : List Bool := if b.letter = (x : Int) ∧ bitM s b.first = true ∧ bitM t b.second = true then setM m b.to else m
def leafR (S : Nat) (lv : List Leaf) (x : Nat) : List Bool := lv.foldl (leafF x) (List.replicate S false)
def brR (S : Nat) (br : List Branch) (x : Nat) (s t : List Bool) : List Bool := br.foldl (brF x s t) (List.replicate S false)
def meetsR (acc : List Int) (s : List Bool) : Bool := acc.any (bitM s)

theorem mk_marks (w : World) (n : Nat) (hn : n ≤ 100000) :
    ∃ g w1, (Instr.makeSlice 79 (.int .i64 n) (.int .i64 n)).run Try.prog w = .ok (.slice (some ⟨g, 0, none⟩) n n) w1 ∧ Blk w1 g 4 (Array.replicate n (.bool false)) ∧ Below w.heap.size w w1 ∧ w.heap.size ≤ g :=
  mk_facts Try.underlying79 info4 rfl (by omega) w n hn
theorem marks_new (n : Nat) : Array.replicate n (Value.bool false) = ((List.replicate n false).map Value.bool).toArray := by
  apply Array.ext'
  simp
theorem marks_set (m : List Bool) (q : Nat) : ((m.map Value.bool).toArray).setIfInBounds q (.bool true) = ((m.set q true).map Value.bool).toArray := by
  apply Array.ext'
  simp [List.map_set]
theorem setM_len (m : List Bool) (q : Int) : (setM m q).length = m.length := by simp [setM]
theorem bitM_get {s : List Bool} {q : Nat} {b : Bool} (h : s[q]? = some b) : bitM s (q : Int) = b := by simp [bitM, h]

set_option maxHeartbeats 2000000 in
set_option maxRecDepth 100000 in
theorem refMeets_any {w : World} {B B2 S : Nat} {u : Value} {s : List Bool} {A : Option Addr} {c : Nat} {acc : List Int} (h : Marks w B S u s) (ha : Sl w B2 1 encI A acc) (hv : acc.all (inR · 0 S) = true) :
    Calls Try.prog 83 #[u, .slice A acc.length c] w fun e w' => e = .returned (.bool (meetsR acc s)) ∧ w = w' := by
  obtain ⟨g, hg, rfl, hb, hl⟩ := h
  have hn := ha.1
  have hvv := hide hv
  have hL := hide hl
  clear hv hl
  go_enter Try.func83, Try.ntmps83
  go_wp2_with fail
  go_loop [5] (fun ii => ∃ (k : Nat), ii = .int .i64 (k : Int) ∧ k ≤ acc.length ∧ Hid (∀ j, j < k → ∀ q, acc[j]? = some q → bitM s q = false)) (fun ii => acc.length - (intOf ii).toNat)
  case atStart => exact ⟨0, rfl, Nat.zero_le _, fun j hj => absurd hj (by omega)⟩
  case round =>
    obtain ⟨k, rfl, hk, hE⟩ := hrel
    by_cases hlt : k < acc.length
    · obtain ⟨b, off, x, rfl, hbb, hx, hc⟩ := ha.at hlt
      have hc0 := hc 0 (by omega)
      simp only [Nat.mul_one, Nat.add_zero, encI] at hc0
      have hin := List.all_eq_true.1 hvv.out x (List.mem_of_getElem? hx)
      simp only [inR, Bool.and_eq_true, decide_eq_true_eq] at hin
      obtain ⟨q, rfl⟩ := Int.eq_ofNat_of_zero_le hin.1
      have hq : q < S := by omega
      obtain ⟨bq, hbq⟩ := get_lt (l := s) (i := q) (by rw [hL.out]; exact hq)
      have hcq := Marks.cell hb hbq
      have hX := hide hx
      have hBq := hide (bitM_get hbq)
      clear hx hbq hc hin
      cases bq
      · go_wp2_with fail
        refine ⟨⟨k + 1, by go_num, by omega, fun j hj q' hq' => ?_⟩, by simp [intOf]; omega⟩
        by_cases hjk : j = k
        · subst hjk
          rw [hX.out] at hq'
          injection hq' with hq'
          subst hq'
          exact hBq.out
        · exact hE.out j (by omega) q' hq'
      · go_wp2_with fail
        go_ret
        refine ⟨?_, rfl⟩
        have : meetsR acc s = true := List.any_eq_true.2 ⟨_, List.mem_of_getElem? hX.out, hBq.out⟩
        rw [this]
        rfl
    · go_wp2_with fail
      go_ret
      refine ⟨?_, rfl⟩
      have : meetsR acc s = false := List.any_eq_false.2 fun q hq => by
        obtain ⟨j, hj⟩ := List.mem_iff_getElem?.1 hq
        rw [hE.out j (by have := lt_of_get hj; omega) q hj]
        simp
      rw [this]
      rfl

/-- As valid, with one state more: what the document's own automata may be. -/
def TA.head5 (a : TA) : Bool := decide (1 ≤ a.letters) && decide (a.letters ≤ 8) && decide (0 ≤ a.states) && decide (a.states ≤ 65)
def TA.fit5 (a : TA) : Bool := a.head5 && a.accept.all (inR · 0 a.states) && a.leaves.all (okLeaf a.letters a.states) && a.branches.all (okBranch a.letters a.states)
theorem TA.fit5_of {a : TA} (h : a.valid = true) : a.fit5 = true := by
  simp only [TA.valid, TA.head, TA.fit5, TA.head5, Bool.and_eq_true, decide_eq_true_eq] at h ⊢
  obtain ⟨⟨⟨⟨⟨⟨h1, h2⟩, h3⟩, h4⟩, h5⟩, h6⟩, h7⟩ := h
  exact ⟨⟨⟨⟨⟨⟨h1, h2⟩, h3⟩, by omega⟩, h5⟩, h6⟩, h7⟩

set_option maxHeartbeats 4000000 in
set_option maxRecDepth 100000 in
theorem refLeaf_any (v : Value) (a : TA) (w : World) (x : Nat) (h : IsTA w w.heap.size v a) (hv : a.fit5 = true) :
    Calls Try.prog 81 #[v, .int .i64 (x : Int)] w (Ret fun r w' => Below w.heap.size w w' ∧ Marks w' w'.heap.size a.states.toNat r (leafR a.states.toNat a.leaves x)) := by
  obtain ⟨A1, c1, A2, c2, A3, c3, rfl, -, h2, -⟩ := h
  have hv' := hv
  clear hv
  simp only [TA.fit5, TA.head5, Bool.and_eq_true, decide_eq_true_eq] at hv'
  obtain ⟨⟨⟨⟨⟨-, hS0⟩, hS64⟩, -⟩, hvl⟩, -⟩ := hv'
  obtain ⟨L, S, acc, lv, br⟩ := a
  dsimp only at *
  obtain ⟨S, rfl⟩ := Int.eq_ofNat_of_zero_le hS0
  have hS : S ≤ 65 := by omega
  simp only [Int.toNat_natCast]
  have hn2 := h2.1
  have hvL := hide hvl
  clear hvl hS0 hS64
  obtain ⟨w1, hw1, hb1, hB1, hk1⟩ := box_blk w #[.int .i64 L, .int .i64 (S : Int), .slice A1 acc.length c1, .slice A2 lv.length c2, .slice A3 br.length c3] 26
  obtain ⟨g, w2, hmk, hbl, hb2, hg⟩ := mk_marks w1 S (by omega)
  have hcb := hB1.cell
  have hH1 := hide (hB1.kept (Kept.of_below hb2 (fun _ => False)) id)
  have hsz1 := hb1.size
  have hsz2 := hb2.size
  have hb12 := hb1.trans (hb2.mono hsz1)
  have hgl := hbl.lt
  rw [marks_new] at hbl
  have hbl2 := hide hbl
  clear hbl
  go_enter Try.func81, Try.ntmps81
  go_wp2_with fail
  go_loopw [6] (fun ii wr => ∃ (k : Nat), ii = .int .i64 (k : Int) ∧ k ≤ lv.length ∧ Hid (∃ m, m = (lv.take k).foldl (leafF x) (List.replicate S false) ∧ m.length = S ∧ Blk wr g 4 (m.map Value.bool).toArray) ∧ Kept w2 wr (fun k => k = g)) (fun ii _ => lv.length - (intOf ii).toNat)
  case atStart => exact ⟨0, rfl, Nat.zero_le _, ⟨_, rfl, by simp, hbl2.out⟩, Kept.refl _ _⟩
  case round =>
    obtain ⟨k, rfl, hk, hM, hK⟩ := hrel
    have hB2 := hH1.out.kept hK (fun (e : w.heap.size = g) => by have := hB1.lt; omega)
    have hcb2 := hB2.cell
    have hbb := hb12.trans (hK.below (B := w.heap.size) (by omega) (fun k' h1 (e : k' = g) => by omega))
    by_cases hlt : k < lv.length
    · obtain ⟨b, off, l, rfl, hbk, hx, hc⟩ := h2.at hlt
      have hcc := fun j hj => (hbb.cell (by exact hbk)).trans (hc j hj)
      have hc0 := hcc 0 (by omega)
      have hc1 := hcc 1 (by omega)
      simp only [Nat.add_zero, encL] at hc0 hc1
      have hin := List.all_eq_true.1 hvL.out l (List.mem_of_getElem? hx)
      simp only [okLeaf, inR, Bool.and_eq_true, decide_eq_true_eq] at hin
      obtain ⟨-, h3, h4⟩ := hin
      obtain ⟨m, hm, hml, hmb⟩ := hM.out
      have hf := hide (foldl_take (leafF x) (List.replicate S false) lv k l hx)
      obtain ⟨le, q⟩ := l
      dsimp only at *
      obtain ⟨q, rfl⟩ := Int.eq_ofNat_of_zero_le h3
      have hq : q < S := by omega
      obtain ⟨bq, hbq⟩ := get_lt (l := m) (i := q) (by rw [hml]; exact hq)
      have hcq := Marks.cell hmb hbq
      have hfr := hmb.frozen q
      have hmm := hide hm
      have hmL := hide hml
      clear hcc hc hx h3 h4 hbq hm hml hM
      by_cases he : le = (x : Int)
      · subst he
        go_wp2_with fail
        refine ⟨⟨k + 1, by go_num, by omega, ⟨setM m (q : Int), ?_, ?_, ?_⟩, hK.setCell (fun _ => rfl) _⟩, by simp [intOf]; omega⟩
        · rw [hf.out, ← hmm.out]
          simp [leafF]
        · rw [setM_len]; exact hmL.out
        · have := hmb.set_ q (.bool true)
          rw [marks_set] at this
          simpa [setM] using this
      · have hne := hide he
        go_wp2_with fail
        refine ⟨⟨k + 1, by go_num, by omega, ⟨m, ?_, hmL.out, hmb⟩, hK⟩, by simp [intOf]; omega⟩
        rw [hf.out, ← hmm.out]
        simp [leafF, hne.out]
    · have hall := hide (foldl_all (leafF x) (List.replicate S false) lv k (by omega))
      obtain ⟨m, hm, hml, hmb⟩ := hM.out
      have hgw := hmb.lt
      rw [hall.out] at hm
      have hmm := hide hm
      clear hm
      go_wp2_with fail
      go_ret
      exact ⟨hbb, g, hgw, rfl, by rw [leafR, ← hmm.out]; exact hmb, by rw [leafR, ← hmm.out]; exact hml⟩

set_option maxHeartbeats 4000000 in
set_option maxRecDepth 100000 in
theorem refBranch_any (v u1 u2 : Value) (a : TA) (s t : List Bool) (w : World) (x Bs Bt : Nat) (h : IsTA w w.heap.size v a) (hv : a.fit5 = true) (hs : Marks w Bs a.states.toNat u1 s) (ht : Marks w Bt a.states.toNat u2 t) :
    Calls Try.prog 82 #[v, .int .i64 (x : Int), u1, u2] w (Ret fun r w' => Below w.heap.size w w' ∧ Marks w' w'.heap.size a.states.toNat r (brR a.states.toNat a.branches x s t)) := by
  obtain ⟨A1, c1, A2, c2, A3, c3, rfl, -, -, h2⟩ := h
  obtain ⟨g1, -, rfl, hm1, hl1⟩ := hs
  obtain ⟨g2, -, rfl, hm2, hl2⟩ := ht
  have hg1 := hm1.lt
  have hg2 := hm2.lt
  have hv' := hv
  clear hv
  simp only [TA.fit5, TA.head5, Bool.and_eq_true, decide_eq_true_eq] at hv'
  obtain ⟨⟨⟨⟨⟨-, hS0⟩, hS64⟩, -⟩, -⟩, hvl⟩ := hv'
  obtain ⟨L, S, acc, lv, br⟩ := a
  dsimp only at *
  obtain ⟨S, rfl⟩ := Int.eq_ofNat_of_zero_le hS0
  have hS : S ≤ 65 := by omega
  simp only [Int.toNat_natCast] at *
  have hn2 := h2.1
  have hvL := hide hvl
  have hL1 := hide hl1
  have hL2 := hide hl2
  clear hvl hS0 hS64 hl1 hl2
  obtain ⟨w1, hw1, hb1, hB1, hk1⟩ := box_blk w #[.int .i64 L, .int .i64 (S : Int), .slice A1 acc.length c1, .slice A2 lv.length c2, .slice A3 br.length c3] 26
  obtain ⟨g, w2, hmk, hbl, hb2, hg⟩ := mk_marks w1 S (by omega)
  have hcb := hB1.cell
  have hH1 := hide (hB1.kept (Kept.of_below hb2 (fun _ => False)) id)
  have hsz1 := hb1.size
  have hsz2 := hb2.size
  have hb12 := hb1.trans (hb2.mono hsz1)
  have hgl := hbl.lt
  rw [marks_new] at hbl
  have hbl2 := hide hbl
  clear hbl
  go_enter Try.func82, Try.ntmps82
  go_wp2_with fail
  go_loopw [10] (fun ii wr => ∃ (k : Nat), ii = .int .i64 (k : Int) ∧ k ≤ br.length ∧ Hid (∃ m, m = (br.take k).foldl (brF x s t) (List.replicate S false) ∧ m.length = S ∧ Blk wr g 4 (m.map Value.bool).toArray) ∧ Kept w2 wr (fun k => k = g)) (fun ii _ => br.length - (intOf ii).toNat)
  case atStart => exact ⟨0, rfl, Nat.zero_le _, ⟨_, rfl, by simp, hbl2.out⟩, Kept.refl _ _⟩
  case round =>
    obtain ⟨k, rfl, hk, hM, hK⟩ := hrel
    have hB2 := hH1.out.kept hK (fun (e : w.heap.size = g) => by have := hB1.lt; omega)
    have hcb2 := hB2.cell
    have hbb := hb12.trans (hK.below (B := w.heap.size) (by omega) (fun k' h1 (e : k' = g) => by omega))
    by_cases hlt : k < br.length
    · obtain ⟨b, off, l, rfl, hbk, hx, hc⟩ := h2.at hlt
      have hcc := fun j hj => (hbb.cell (by exact hbk)).trans (hc j hj)
      have hc0 := hcc 0 (by omega)
      have hc1 := hcc 1 (by omega)
      have hc2 := hcc 2 (by omega)
      have hc3 := hcc 3 (by omega)
      simp only [Nat.add_zero, encBr] at hc0 hc1 hc2 hc3
      have hin := List.all_eq_true.1 hvL.out l (List.mem_of_getElem? hx)
      simp only [okBranch, inR, Bool.and_eq_true, decide_eq_true_eq] at hin
      obtain ⟨⟨⟨-, i1, i2⟩, i3, i4⟩, i5, i6⟩ := hin
      obtain ⟨m, hm, hml, hmb⟩ := hM.out
      have hf := hide (foldl_take (brF x s t) (List.replicate S false) br k l hx)
      obtain ⟨le, q1, q2, q⟩ := l
      dsimp only at *
      obtain ⟨q, rfl⟩ := Int.eq_ofNat_of_zero_le i5
      obtain ⟨q1, rfl⟩ := Int.eq_ofNat_of_zero_le i1
      obtain ⟨q2, rfl⟩ := Int.eq_ofNat_of_zero_le i3
      have hq : q < S := by omega
      have hq1 : q1 < S := by omega
      have hq2 : q2 < S := by omega
      obtain ⟨bq, hbq⟩ := get_lt (l := m) (i := q) (by rw [hml]; exact hq)
      obtain ⟨b1, hb1q⟩ := get_lt (l := s) (i := q1) (by rw [hL1.out]; exact hq1)
      obtain ⟨b2, hb2q⟩ := get_lt (l := t) (i := q2) (by rw [hL2.out]; exact hq2)
      have hcq := Marks.cell hmb hbq
      have hcq1 := (hbb.cell (p := ⟨g1, q1, none⟩) (by exact hg1)).trans (Marks.cell hm1 hb1q)
      have hcq2 := (hbb.cell (p := ⟨g2, q2, none⟩) (by exact hg2)).trans (Marks.cell hm2 hb2q)
      have hfr := hmb.frozen q
      have hmm := hide hm
      have hmL := hide hml
      have hb1t := hide (bitM_get hb1q)
      have hb2t := hide (bitM_get hb2q)
      have hmlt := hmb.lt
      have hq' := hK.size
      clear hcc hc hx i1 i2 i3 i4 i5 i6 hbq hm hml hM hb1q hb2q
      have hKa := hK.alloc (.cells #[.int .i64 le, .int .i64 (q1 : Int), .int .i64 (q2 : Int), .int .i64 (q : Int)] 59)
      have hKn := (Kept.refl wr (fun _ => False)).alloc (.cells #[.int .i64 le, .int .i64 (q1 : Int), .int .i64 (q2 : Int), .int .i64 (q : Int)] 59)
      have hmba := hmb.kept hKn id
      have hfra := hmba.frozen q
      have hcqa1 := cell_old (o := .cells #[.int .i64 le, .int .i64 (q1 : Int), .int .i64 (q2 : Int), .int .i64 (q : Int)] 59) (p := ⟨g1, q1, none⟩) (by show g1 < _; omega) hcq1
      have hcqa2 := cell_old (o := .cells #[.int .i64 le, .int .i64 (q1 : Int), .int .i64 (q2 : Int), .int .i64 (q : Int)] 59) (p := ⟨g2, q2, none⟩) (by show g2 < _; omega) hcq2
      by_cases he : le = (x : Int)
      · subst he
        cases hb1e : b1 <;> cases hb2e : b2
        all_goals
          subst hb1e hb2e
          go_wp2_with fail
          first
          | (refine ⟨⟨k + 1, by go_num, by omega, ⟨m, ?_, hmL.out, hmba⟩, hKa⟩, by simp [intOf]; omega⟩
             rw [hf.out, ← hmm.out]
             simp [brF, hb1t.out, hb2t.out])
          | (refine ⟨⟨k + 1, by go_num, by omega, ⟨setM m (q : Int), ?_, ?_, ?_⟩, (hK.setCell (p := ⟨g, q, none⟩) (fun _ => rfl) (.bool true)).alloc _⟩, by simp [intOf]; omega⟩
             · rw [hf.out, ← hmm.out]
               simp [brF, hb1t.out, hb2t.out]
             · rw [setM_len]; exact hmL.out
             · have := (hmb.set_ q (.bool true)).kept ((Kept.refl _ (fun _ => False)).alloc (.cells #[.int .i64 (x : Int), .int .i64 (q1 : Int), .int .i64 (q2 : Int), .int .i64 (q : Int)] 59)) id
               rw [marks_set] at this
               simpa [setM] using this)
      · have hne := hide he
        go_wp2_with fail
        refine ⟨⟨k + 1, by go_num, by omega, ⟨m, ?_, hmL.out, hmba⟩, hKa⟩, by simp [intOf]; omega⟩
        rw [hf.out, ← hmm.out]
        simp [brF, hne.out]
    · have hall := hide (foldl_all (brF x s t) (List.replicate S false) br k (by omega))
      obtain ⟨m, hm, hml, hmb⟩ := hM.out
      have hgw := hmb.lt
      rw [hall.out] at hm
      have hmm := hide hm
      clear hm
      go_wp2_with fail
      go_ret
      exact ⟨hbb, g, hgw, rfl, by rw [brR, ← hmm.out]; exact hmb, by rw [brR, ← hmm.out]; exact hml⟩
end Go.Proofs.Ytnimlcbgeiajiaa

namespace Go.Proofs.Ytnimlcbgeiajiaa
open Go.RowKit

def leafMF (x : Nat) (m : Nat) (e : Leaf) : Nat := if e.letter = (x : Int) then setB m e.to else m
def brMF (x : Nat) (s t : Nat) (m : Nat) (e : Branch) : Nat := if e.letter = (x : Int) ∧ mBit s e.first = true ∧ mBit t e.second = true then setB m e.to else m
theorem brM_filter (l : List Branch) (x s t : Nat) : ∀ m, (byL l x).foldl (fun m e => if mBit s e.first && mBit t e.second then setB m e.to else m) m = l.foldl (brMF x s t) m := by
  induction l with
  | nil => intro m; rfl
  | cons b l ih =>
    intro m
    unfold byL at ih ⊢
    by_cases h : b.letter = (x : Int)
    · rw [List.filter_cons_of_pos (by simpa using h), List.foldl_cons, List.foldl_cons, ih]
      simp [h, brMF]
    · rw [List.filter_cons_of_neg (by simpa using h), List.foldl_cons, ih]
      simp [h, brMF]

set_option maxHeartbeats 4000000 in
set_option maxRecDepth 100000 in
theorem leafSet_any (v : Value) (a : TA) (w : World) (x : Nat) (h : IsTA w w.heap.size v a) (hv : a.valid = true) :
    Calls Try.prog 53 #[v, .int .i64 (x : Int)] w (Ret fun r w' => r = .int .u64 (a.leafS x : Int) ∧ U64 (a.leafS x) ∧ Below w.heap.size w w') := by
  obtain ⟨A1, c1, A2, c2, A3, c3, rfl, -, h2, -⟩ := h
  have hv' := hv
  clear hv
  simp only [TA.valid, TA.head, Bool.and_eq_true, decide_eq_true_eq] at hv'
  obtain ⟨⟨⟨⟨⟨-, hS0⟩, hS64⟩, -⟩, hvl⟩, -⟩ := hv'
  obtain ⟨L, S, acc, lv, br⟩ := a
  dsimp only [TA.leafS] at *
  have hn2 := h2.1
  have hvL := hide hvl
  clear hvl
  obtain ⟨w1, hw1, hb1, hB1, hk1⟩ := box_blk w #[.int .i64 L, .int .i64 S, .slice A1 acc.length c1, .slice A2 lv.length c2, .slice A3 br.length c3] 26
  have hcb := hB1.cell
  have hH1 := hide hB1
  have hsz1 := hb1.size
  go_enter Try.func53, Try.ntmps53
  go_wp2_with fail
  go_loopw [5, 11] (fun mm ii wr => ∃ (k m : Nat), ii = .int .i64 (k : Int) ∧ k ≤ lv.length ∧ mm = .int .u64 (m : Int) ∧ U64 m ∧ Hid (m = (lv.take k).foldl (leafMF x) 0) ∧ Below w.heap.size w wr) (fun _ ii _ => lv.length - (intOf ii).toNat)
  case atStart => exact ⟨0, 0, rfl, Nat.zero_le _, rfl, U64.zero, rfl, hb1⟩
  case round =>
    obtain ⟨k, m, rfl, hk, rfl, hU, hM, hbb⟩ := hrel
    by_cases hlt : k < lv.length
    · obtain ⟨b, off, l, rfl, hbk, hx, hc⟩ := h2.at hlt
      have hcc := fun j hj => (hbb.cell (by exact hbk)).trans (hc j hj)
      have hc0 := hcc 0 (by omega)
      have hc1 := hcc 1 (by omega)
      simp only [Nat.add_zero, encL] at hc0 hc1
      have hin := List.all_eq_true.1 hvL.out l (List.mem_of_getElem? hx)
      simp only [okLeaf, inR, Bool.and_eq_true, decide_eq_true_eq] at hin
      obtain ⟨-, h3, h4⟩ := hin
      have hf := hide (foldl_take (leafMF x) 0 lv k l hx)
      obtain ⟨le, q⟩ := l
      dsimp only at *
      have hsz2 := hbb.size
      have hq64 : q < 64 := by omega
      clear hcc hc hx
      by_cases he : le = (x : Int)
      · subst he
        go_wp2_with fail
        refine ⟨⟨k + 1, setB m q, by go_num, by omega, rfl, hU.setB (by omega), ?_, hbb.alloc (by omega) _⟩, by simp [intOf]; omega⟩
        show _ = _
        rw [hf.out, ← hM.out]
        simp [leafMF]
      · have hne := hide he
        go_wp2_with fail
        refine ⟨⟨k + 1, m, by go_num, by omega, rfl, hU, ?_, hbb.alloc (by omega) _⟩, by simp [intOf]; omega⟩
        show _ = _
        rw [hf.out, ← hM.out]
        simp [leafMF, hne.out]
    · have hall := hide (foldl_all (leafMF x) 0 lv k (by omega))
      go_wp2_with fail
      go_ret
      have e : m = leafM lv x := by rw [hM.out, hall.out]; rfl
      subst e
      exact ⟨rfl, hU, hbb⟩

set_option maxHeartbeats 4000000 in
set_option maxRecDepth 100000 in
theorem branchSet_any (v : Value) (a : TA) (w : World) (x s t : Nat) (h : IsTA w w.heap.size v a) (hv : a.valid = true) (hs : U64 s) (ht : U64 t) :
    Calls Try.prog 54 #[v, .int .i64 (x : Int), .int .u64 (s : Int), .int .u64 (t : Int)] w (Ret fun r w' => r = .int .u64 (a.brS x s t : Int) ∧ U64 (a.brS x s t) ∧ Below w.heap.size w w') := by
  obtain ⟨A1, c1, A2, c2, A3, c3, rfl, -, -, h2⟩ := h
  have hv' := hv
  clear hv
  simp only [TA.valid, TA.head, Bool.and_eq_true, decide_eq_true_eq] at hv'
  obtain ⟨⟨⟨⟨⟨-, hS0⟩, hS64⟩, -⟩, -⟩, hvl⟩ := hv'
  obtain ⟨L, S, acc, lv, br⟩ := a
  dsimp only [TA.brS] at *
  have hn2 := h2.1
  have hvL := hide hvl
  clear hvl
  obtain ⟨w1, hw1, hb1, hB1, hk1⟩ := box_blk w #[.int .i64 L, .int .i64 S, .slice A1 acc.length c1, .slice A2 lv.length c2, .slice A3 br.length c3] 26
  have hcb := hB1.cell
  have hH1 := hide hB1
  have hsz1 := hb1.size
  go_enter Try.func54, Try.ntmps54
  go_wp2_with fail
  go_loopw [9, 15] (fun mm ii wr => ∃ (k m : Nat), ii = .int .i64 (k : Int) ∧ k ≤ br.length ∧ mm = .int .u64 (m : Int) ∧ U64 m ∧ Hid (m = (br.take k).foldl (brMF x s t) 0) ∧ Below w.heap.size w wr) (fun _ ii _ => br.length - (intOf ii).toNat)
  case atStart => exact ⟨0, 0, rfl, Nat.zero_le _, rfl, U64.zero, rfl, hb1⟩
  case round =>
    obtain ⟨k, m, rfl, hk, rfl, hU, hM, hbb⟩ := hrel
    by_cases hlt : k < br.length
    · obtain ⟨b, off, l, rfl, hbk, hx, hc⟩ := h2.at hlt
      have hcc := fun j hj => (hbb.cell (by exact hbk)).trans (hc j hj)
      have hc0 := hcc 0 (by omega)
      have hc1 := hcc 1 (by omega)
      have hc2 := hcc 2 (by omega)
      have hc3 := hcc 3 (by omega)
      simp only [Nat.add_zero, encBr] at hc0 hc1 hc2 hc3
      have hin := List.all_eq_true.1 hvL.out l (List.mem_of_getElem? hx)
      simp only [okBranch, inR, Bool.and_eq_true, decide_eq_true_eq] at hin
      obtain ⟨⟨⟨-, i1, i2⟩, i3, i4⟩, i5, i6⟩ := hin
      have hf := hide (foldl_take (brMF x s t) 0 br k l hx)
      obtain ⟨le, q1, q2, q⟩ := l
      dsimp only at *
      have hsz2 := hbb.size
      have hq64 : q < 64 := by omega
      have hq164 : q1 < 64 := by omega
      have hq264 : q2 < 64 := by omega
      clear hcc hc hx
      by_cases he : le = (x : Int)
      · subst he
        cases hb1e : mBit s q1 <;> cases hb2e : mBit t q2
        all_goals
          have HB1 := hide hb1e
          have HB2 := hide hb2e
          go_wp2_with fail
          first
          | (refine ⟨⟨k + 1, m, by go_num, by omega, rfl, hU, ?_, hbb.alloc (by omega) _⟩, by simp [intOf]; omega⟩
             show _ = _
             rw [hf.out, ← hM.out]
             simp [brMF, HB1.out, HB2.out]; done)
          | (refine ⟨⟨k + 1, setB m q, by go_num, by omega, rfl, hU.setB (by omega), ?_, hbb.alloc (by omega) _⟩, by simp [intOf]; omega⟩
             show _ = _
             rw [hf.out, ← hM.out]
             simp [brMF, HB1.out, HB2.out])
      · have hne := hide he
        go_wp2_with fail
        refine ⟨⟨k + 1, m, by go_num, by omega, rfl, hU, ?_, hbb.alloc (by omega) _⟩, by simp [intOf]; omega⟩
        show _ = _
        rw [hf.out, ← hM.out]
        simp [brMF, hne.out]
    · have hall := hide (foldl_all (brMF x s t) 0 br k (by omega))
      go_wp2_with fail
      go_ret
      have e : m = brM s t (byL br x) := by
        rw [hM.out, hall.out]
        unfold brM
        rw [brM_filter]
      subst e
      exact ⟨rfl, hU, hbb⟩
end Go.Proofs.Ytnimlcbgeiajiaa

namespace Go.Proofs.Ytnimlcbgeiajiaa
open Go.RowKit

def stkStep (c l : Int) : List Tr → Option (List Tr)
  | s => if c = 0 then some (.leaf l.toNat :: s) else match s with
    | t1 :: t2 :: r => some (.node l.toNat t1 t2 :: r)
    | _ => none
def stk : List Int → List Int → Option (List Tr)
  | c :: sh, l :: lb => (stk sh lb).bind (stkStep c l)
  | _, _ => some []

theorem stk_ok {L : Int} : ∀ (sh lb : List Int) (o : Int), 0 ≤ o → vtGo L o sh lb = true → ∃ s, stk sh lb = some s ∧ (s.length : Int) = o ∧ ∀ t ∈ s, t.ok L.toNat
  | [], [], o, h0, h => ⟨[], rfl, by simp [vtGo] at h; simp; omega, by simp⟩
  | [], _ :: _, o, h0, h => by simp [vtGo] at h
  | _ :: _, [], o, h0, h => by simp [vtGo] at h
  | c :: sh, l :: lb, o, h0, h => by
    simp only [vtGo, Bool.and_eq_true, bne_iff_ne, Bool.or_eq_true, beq_iff_eq, decide_eq_true_eq] at h
    obtain ⟨⟨⟨⟨h1, h2⟩, h3⟩, h4⟩, h5⟩ := h
    obtain ⟨s, e, hl, hs⟩ := stk_ok sh lb (o + c - 1) (by omega) h5
    by_cases hc : c = 0
    · subst hc
      refine ⟨.leaf l.toNat :: s, by simp [stk, e, stkStep], by simp; omega, ?_⟩
      intro t ht
      rcases List.mem_cons.1 ht with rfl | ht
      · show l.toNat < L.toNat
        omega
      · exact hs t ht
    · have hc2 : c = 2 := by omega
      subst hc2
      match s, hl, hs, e with
      | t1 :: t2 :: r, hl, hs, e =>
        refine ⟨.node l.toNat t1 t2 :: r, by simp [stk, e, stkStep], by simp at hl ⊢; omega, ?_⟩
        intro t ht
        rcases List.mem_cons.1 ht with rfl | ht
        · exact ⟨by omega, hs _ List.mem_cons_self, hs _ (List.mem_cons_of_mem _ List.mem_cons_self)⟩
        · exact hs t (List.mem_cons_of_mem _ (List.mem_cons_of_mem _ ht))
      | [t1], hl, _, _ => simp at hl; omega
      | [], hl, _, _ => simp at hl; omega

/-- The tree that a valid pair stands for. -/
def treeOf (sh lb : List Int) : Tr := ((stk sh lb).getD []).headD (.leaf 0)
theorem validT_tree {L : Int} {sh lb : List Int} (h : validT L sh lb = true) : stk sh lb = some [treeOf sh lb] ∧ (treeOf sh lb).ok L.toNat ∧ lb.length = sh.length ∧ 1 ≤ sh.length ∧ sh.length ≤ 4095 := by
  simp only [validT, Bool.and_eq_true, decide_eq_true_eq] at h
  obtain ⟨⟨⟨h1, h2⟩, h3⟩, h4⟩ := h
  obtain ⟨s, e, hl, hs⟩ := stk_ok sh lb 1 (by omega) h4
  match s, hl, hs, e with
  | [t], _, hs, e => 
    have : treeOf sh lb = t := by simp [treeOf, e]
    rw [this]
    exact ⟨e, hs t List.mem_cons_self, h3, h1, h2⟩
  | [], hl, _, _ => simp at hl
  | _ :: _ :: _, hl, _, _ => simp at hl; omega

/-- What lies on the stack before the node i is read, and behind it. -/
theorem stk_at {L : Int} : ∀ (sh lb : List Int) (o : Int), 0 ≤ o → vtGo L o sh lb = true → ∀ i, i < sh.length → ∃ c l s, sh[i]? = some c ∧ lb[i]? = some l ∧ 0 ≤ l ∧ stk (sh.drop (i + 1)) (lb.drop (i + 1)) = some s ∧
    ((c = 0 ∧ stk (sh.drop i) (lb.drop i) = some (.leaf l.toNat :: s)) ∨ (c = 2 ∧ ∃ t1 t2 r, s = t1 :: t2 :: r ∧ stk (sh.drop i) (lb.drop i) = some (.node l.toNat t1 t2 :: r)))
  | [], _, o, _, _, i, hi => by simp at hi
  | _ :: _, [], o, _, h, _, _ => by simp [vtGo] at h
  | c :: sh, l :: lb, o, h0, h, i, hi => by
    have h' := h
    simp only [vtGo, Bool.and_eq_true, bne_iff_ne, Bool.or_eq_true, beq_iff_eq, decide_eq_true_eq] at h
    obtain ⟨⟨⟨⟨h1, h2⟩, h3⟩, h4⟩, h5⟩ := h
    cases i with
    | zero =>
      obtain ⟨s, e, hl, hs⟩ := stk_ok sh lb (o + c - 1) (by omega) h5
      refine ⟨c, l, s, rfl, rfl, h3, e, ?_⟩
      by_cases hc : c = 0
      · subst hc
        exact .inl ⟨rfl, by simp [stk, e, stkStep]⟩
      · have hc2 : c = 2 := by omega
        subst hc2
        match s, hl, e with
        | t1 :: t2 :: r, hl, e => exact .inr ⟨rfl, t1, t2, r, rfl, by simp [stk, e, stkStep]⟩
        | [t1], hl, _ => simp at hl; omega
        | [], hl, _ => simp at hl; omega
    | succ i =>
      exact stk_at sh lb (o + c - 1) (by omega) h5 i (by simpa using hi)

theorem own_shrink {w : World} {base size n m : Nat} {e : TypeId} {g cap : Nat} {xs : List Value} (h : w.ownsRow base e size (.slice (some ⟨g, 0, none⟩) n cap) n xs) (hm : m ≤ n) :
    w.ownsRow base e size (.slice (some ⟨g, 0, none⟩) m cap) m (xs.take (m * size)) := by
  obtain ⟨hl, hx⟩ := h
  have hmn : m * size ≤ n * size := Nat.mul_le_mul_right _ hm
  refine ⟨by rw [List.length_take, hl]; omega, ?_⟩
  rcases hx with ⟨h1, _⟩ | ⟨g', cap', cur, hv, hb, hh, hc, hx, hs, ht⟩
  · cases h1
  · injection hv with hv _ hcap
    injection hv with hv
    injection hv with hg
    subst hg hcap
    refine .inr ⟨g, cap, cur, rfl, hb, hh, by omega, hx, hs, ?_⟩
    rw [← ht, List.take_take, Nat.min_eq_left hmn]

def TA.mask (a : TA) (t : Tr) : Nat := runT a.leafS a.brS t
def masks (a : TA) (s : List Tr) : List Value := (s.reverse).map fun t => .int .u64 (a.mask t : Int)
theorem masks_cons (a : TA) (t : Tr) (s : List Tr) : masks a (t :: s) = masks a s ++ [.int .u64 (a.mask t : Int)] := by simp [masks]
theorem masks_two (a : TA) (t1 t2 : Tr) (s : List Tr) : masks a (t1 :: t2 :: s) = masks a s ++ [.int .u64 (a.mask t2 : Int), .int .u64 (a.mask t1 : Int)] := by simp [masks]
theorem masks_len (a : TA) (s : List Tr) : (masks a s).length = s.length := by simp [masks]

theorem accS_any (a : TA) (s : Nat) (h : ∀ q ∈ a.accept, 0 ≤ q) : a.accS s = a.accept.any (mBit s) := by
  unfold TA.accS mHit mAnd accM
  have key : ∀ (l : List Int) (m : Nat), (∀ q ∈ l, 0 ≤ q) → ((s &&& l.foldl setB m) != 0) = ((s &&& m) != 0 || l.any (mBit s)) := by
    intro l
    induction l with
    | nil => intro m _; simp
    | cons q l ih =>
      intro m hq
      rw [List.foldl_cons, ih _ (fun q' hq' => hq q' (List.mem_cons_of_mem _ hq'))]
      rw [List.any_cons, ← Bool.or_assoc]
      congr 1
      unfold setB mOr mPow mBit
      rw [Nat.and_or_distrib_left]
      have h1 : ((s &&& m ||| s &&& 2 ^ q.toNat) != 0) = ((s &&& m) != 0 || (s &&& 2 ^ q.toNat) != 0) := by
        rw [Bool.eq_iff_iff]
        by_cases h0 : s &&& m = 0 <;> simp [Nat.or_eq_zero_iff, h0]
      have h2 : s &&& 2 ^ q.toNat = if s.testBit q.toNat = true then 2 ^ q.toNat else 0 := by
        apply Nat.eq_of_testBit_eq
        intro i
        rw [Nat.testBit_and, Nat.testBit_two_pow]
        by_cases hi : q.toNat = i
        · subst hi
          cases hs : s.testBit q.toNat <;> simp
        · cases hs : s.testBit q.toNat <;> simp [hi]
      rw [h1, h2]
      cases hs : s.testBit q.toNat <;> simp
  rw [key _ _ h]
  simp
end Go.Proofs.Ytnimlcbgeiajiaa

namespace Go.Proofs.Ytnimlcbgeiajiaa
open Go.RowKit

def Tr.nodes : Tr → Nat
  | .leaf _ => 1
  | .node _ s t => 1 + s.nodes + t.nodes
def Tr.sh : Tr → List Int
  | .leaf _ => [0]
  | .node _ s t => 2 :: (s.sh ++ t.sh)
def Tr.lb : Tr → List Int
  | .leaf x => [(x : Int)]
  | .node x s t => (x : Int) :: (s.lb ++ t.lb)
theorem Tr.sh_len (t : Tr) : t.sh.length = t.nodes := by
  induction t with
  | leaf x => rfl
  | node x s t ihs iht => simp [Tr.sh, Tr.nodes, ihs, iht]; omega
theorem Tr.lb_len (t : Tr) : t.lb.length = t.nodes := by
  induction t with
  | leaf x => rfl
  | node x s t ihs iht => simp [Tr.lb, Tr.nodes, ihs, iht]; omega
theorem Tr.pos (t : Tr) : 1 ≤ t.nodes := by cases t <;> simp [Tr.nodes] <;> omega

theorem vtGo_tree {L : Int} {n : Nat} (hL : (n : Int) ≤ L) (t : Tr) : ∀ (o : Int) (sh lb : List Int), t.ok n → 1 ≤ o → vtGo L o (t.sh ++ sh) (t.lb ++ lb) = vtGo L (o - 1) sh lb := by
  induction t with
  | leaf x =>
    intro o sh lb ho h1
    have hx : x < n := ho
    have h2 : (o != 0) = true := by simp; omega
    have h3 : decide ((0 : Int) ≤ (x : Int)) = true := by simp
    have h4 : decide ((x : Int) < L) = true := by simp; omega
    show vtGo L o (0 :: sh) ((x : Int) :: lb) = _
    simp only [vtGo, h2, h3, h4]
    simp
  | node x s t ihs iht =>
    intro o sh lb ho h1
    obtain ⟨hx, hs, ht⟩ := ho
    have h2 : (o != 0) = true := by simp; omega
    have h3 : decide ((0 : Int) ≤ (x : Int)) = true := by simp
    have h4 : decide ((x : Int) < L) = true := by simp; omega
    show vtGo L o (2 :: ((s.sh ++ t.sh) ++ sh)) ((x : Int) :: ((s.lb ++ t.lb) ++ lb)) = _
    simp only [vtGo, h2, h3, h4, List.append_assoc]
    rw [ihs _ _ _ hs (by omega), iht _ _ _ ht (by omega)]
    simp
    congr 1
    omega
theorem stk_tree (t : Tr) : ∀ (sh lb : List Int), stk (t.sh ++ sh) (t.lb ++ lb) = (stk sh lb).map (t :: ·) := by
  induction t with
  | leaf x =>
    intro sh lb
    show stk (0 :: sh) ((x : Int) :: lb) = _
    simp only [stk]
    cases stk sh lb <;> simp [stkStep]
  | node x s t ihs iht =>
    intro sh lb
    show stk (2 :: ((s.sh ++ t.sh) ++ sh)) ((x : Int) :: ((s.lb ++ t.lb) ++ lb)) = _
    simp only [stk, List.append_assoc]
    rw [ihs, iht]
    cases stk sh lb <;> simp [stkStep]
theorem treeOf_tree (t : Tr) : treeOf t.sh t.lb = t := by
  have h := stk_tree t [] []
  rw [List.append_nil, List.append_nil] at h
  simp [treeOf, h, stk]
theorem validT_pre {L : Int} {n : Nat} (hL : (n : Int) ≤ L) {t : Tr} (ho : t.ok n) (hn : t.nodes ≤ 4095) : validT L t.sh t.lb = true := by
  have h := vtGo_tree hL t 1 [] [] ho (by omega)
  rw [List.append_nil, List.append_nil] at h
  have h2 := t.pos
  simp only [validT, Tr.sh_len, Tr.lb_len, h, Bool.and_eq_true, decide_eq_true_eq]
  exact ⟨⟨⟨h2, hn⟩, trivial⟩, rfl⟩
theorem validT_nodes {L : Int} : ∀ (sh lb : List Int) (o : Int), 0 ≤ o → vtGo L o sh lb = true → ∀ s, stk sh lb = some s → (s.map Tr.nodes).sum = sh.length
  | [], lb, o, _, _, s, h => by
    have : s = [] := by
      cases lb <;> simp [stk] at h <;> exact h
    subst this
    rfl
  | _ :: _, [], o, _, h, _, _ => by simp [vtGo] at h
  | c :: sh, l :: lb, o, h0, h, s, hs => by
    simp only [vtGo, Bool.and_eq_true, bne_iff_ne, Bool.or_eq_true, beq_iff_eq, decide_eq_true_eq] at h
    obtain ⟨⟨⟨⟨h1, h2⟩, h3⟩, h4⟩, h5⟩ := h
    obtain ⟨s0, e, hl, -⟩ := stk_ok sh lb (o + c - 1) (by omega) h5
    have ih := validT_nodes sh lb (o + c - 1) (by omega) h5 s0 e
    simp only [stk, e, Option.bind_some] at hs
    by_cases hc : c = 0
    · subst hc
      simp only [stkStep, if_pos] at hs
      have hs := Option.some.inj hs
      subst hs
      simp [Tr.nodes, ih]
      omega
    · match s0, hs, ih with
      | t1 :: t2 :: r, hs, ih =>
        simp only [stkStep, if_neg hc] at hs
        have hs := Option.some.inj hs
        subst hs
        simp [Tr.nodes] at ih ⊢
        omega
      | [t1], hs, _ => simp [stkStep, hc] at hs
      | [], hs, _ => simp [stkStep, hc] at hs
theorem treeOf_nodes {L : Int} {sh lb : List Int} (h : validT L sh lb = true) : (treeOf sh lb).nodes = sh.length := by
  obtain ⟨e, -, -, -, -⟩ := validT_tree h
  simp only [validT, Bool.and_eq_true] at h
  have := validT_nodes sh lb 1 (by omega) h.2 _ e
  simpa using this

/-- The tree can have the state. -/
inductive TA.Has (a : TA) : Tr → Int → Prop
  | leaf {l : Leaf} (h : l ∈ a.leaves) : TA.Has a (.leaf l.letter.toNat) l.to
  | node {b : Branch} {s t : Tr} (h : b ∈ a.branches) (hs : TA.Has a s b.first) (ht : TA.Has a t b.second) : TA.Has a (.node b.letter.toNat s t) b.to

theorem mBit_fold {D : Type} (c : D → Bool) (f : D → Int) (q : Int) (hq : 0 ≤ q) (l : List D) : ∀ m, (∀ e ∈ l, 0 ≤ f e) → mBit (l.foldl (fun m e => if c e = true then setB m (f e) else m) m) q = (mBit m q || l.any fun e => c e && decide (f e = q)) := by
  induction l with
  | nil => intro m _; simp
  | cons e l ih =>
    intro m h
    rw [List.foldl_cons, ih _ (fun e' he => h e' (List.mem_cons_of_mem _ he)), List.any_cons, ← Bool.or_assoc]
    congr 1
    cases hc : c e
    · simp
    · simp only [if_true, Bool.true_and]
      unfold setB
      rw [mBit_or, mBit_pow _ _ (h e List.mem_cons_self) hq]

structure TA.Fits (a : TA) (L S : Nat) : Prop where
  hL : a.letters = L
  hS : a.states = S
  S64 : S ≤ 64
  L8 : L ≤ 8
  lv : ∀ l ∈ a.leaves, ∃ x q : Nat, l = ⟨x, q⟩ ∧ x < L ∧ q < S
  br : ∀ b ∈ a.branches, ∃ x f g q : Nat, b = ⟨x, f, g, q⟩ ∧ x < L ∧ f < S ∧ g < S ∧ q < S
  acc : ∀ q ∈ a.accept, ∃ k : Nat, q = k ∧ k < S
theorem TA.fits {a : TA} (h : a.valid = true) : a.Fits a.letters.toNat a.states.toNat := by
  simp only [TA.valid, TA.head, Bool.and_eq_true, decide_eq_true_eq] at h
  obtain ⟨⟨⟨⟨⟨⟨h1, h2⟩, h3⟩, h4⟩, h5⟩, h6⟩, h7⟩ := h
  refine ⟨by omega, by omega, by omega, by omega, fun l hl => ?_, fun b hb => ?_, fun q hq => ?_⟩
  · have := List.all_eq_true.1 h6 l hl
    simp only [okLeaf, inR, Bool.and_eq_true, decide_eq_true_eq] at this
    obtain ⟨x, q⟩ := l
    dsimp only at this
    exact ⟨x.toNat, q.toNat, by congr 1 <;> omega, by omega, by omega⟩
  · have := List.all_eq_true.1 h7 b hb
    simp only [okBranch, inR, Bool.and_eq_true, decide_eq_true_eq] at this
    obtain ⟨x, f, g, q⟩ := b
    dsimp only at this
    exact ⟨x.toNat, f.toNat, g.toNat, q.toNat, by congr 1 <;> omega, by omega, by omega, by omega, by omega⟩
  · have := List.all_eq_true.1 h5 q hq
    simp only [inR, Bool.and_eq_true, decide_eq_true_eq] at this
    exact ⟨q.toNat, by omega, by omega⟩

theorem Has.state {a : TA} {L S : Nat} (hF : a.Fits L S) {t : Tr} {q : Int} (h : a.Has t q) : ∃ k : Nat, q = k ∧ k < S := by
  cases h with
  | leaf h => obtain ⟨x, q, rfl, _, hq⟩ := hF.lv _ h; exact ⟨q, rfl, hq⟩
  | node h _ _ => obtain ⟨x, f, g, q, rfl, _, _, _, hq⟩ := hF.br _ h; exact ⟨q, rfl, hq⟩
theorem Has.ok {a : TA} {L S : Nat} (hF : a.Fits L S) {t : Tr} {q : Int} (h : a.Has t q) : t.ok L := by
  induction h with
  | leaf h => obtain ⟨x, q, rfl, hx, hq⟩ := hF.lv _ h; exact hx
  | node h _ _ ihs iht => obtain ⟨x, f, g, q, rfl, hx, _⟩ := hF.br _ h; exact ⟨hx, ihs, iht⟩

theorem has_iff {a : TA} {L S : Nat} (hF : a.Fits L S) (t : Tr) : ∀ q : Nat, a.Has t q ↔ mBit (a.mask t) (q : Int) = true := by
  induction t with
  | leaf x =>
    intro q
    have e : a.mask (.leaf x) = leafM a.leaves x := rfl
    have e2 : leafM a.leaves x = a.leaves.foldl (fun m e => if (fun e : Leaf => decide (e.letter = (x : Int))) e = true then setB m (e.to) else m) 0 := by
      unfold leafM; simp
    rw [e, e2, mBit_fold _ (fun e : Leaf => e.to) _ (by omega) _ _ (fun e he => by obtain ⟨_, _, rfl, _⟩ := hF.lv e he; simp), mBit_zero, Bool.false_or, List.any_eq_true]
    constructor
    · intro h
      generalize hq : (q : Int) = qq at h
      generalize ht : Tr.leaf x = tt at h
      cases h with
      | leaf h =>
        rename_i l
        obtain ⟨y, k, rfl, _⟩ := hF.lv _ h
        refine ⟨_, h, ?_⟩
        injection ht with ht
        simp at ht
        subst ht
        simp
      | node _ _ _ => cases ht
    · rintro ⟨l, hl, h⟩
      simp only [Bool.and_eq_true, decide_eq_true_eq] at h
      have := TA.Has.leaf (a := a) hl
      rw [h.1, h.2] at this
      simpa using this
  | node x s t ihs iht =>
    intro q
    have e : a.mask (.node x s t) = brM (a.mask s) (a.mask t) (byL a.branches x) := rfl
    have e2 : brM (a.mask s) (a.mask t) (byL a.branches x) = a.branches.foldl (fun m e => if (fun e : Branch => decide (e.letter = (x : Int)) && mBit (a.mask s) e.first && mBit (a.mask t) e.second) e = true then setB m (e.to) else m) 0 := by
      unfold brM
      rw [brM_filter]
      congr 1
      funext m e
      simp [brMF, and_assoc]
    rw [e, e2, mBit_fold _ (fun e : Branch => e.to) _ (by omega) _ _ (fun e he => by obtain ⟨_, _, _, _, rfl, _⟩ := hF.br e he; simp), mBit_zero, Bool.false_or, List.any_eq_true]
    constructor
    · intro h
      generalize hq : (q : Int) = qq at h
      generalize ht : Tr.node x s t = tt at h
      cases h with
      | leaf h => cases ht
      | node h h1 h2 =>
        rename_i b s' t'
        injection ht with ht hs' ht'
        subst hs' ht'
        obtain ⟨y, f, g, k, rfl, _⟩ := hF.br _ h
        simp at ht
        subst ht
        refine ⟨_, h, ?_⟩
        simp only [Bool.and_eq_true, decide_eq_true_eq]
        exact ⟨⟨⟨trivial, (ihs f).1 h1⟩, (iht g).1 h2⟩, trivial⟩
    · rintro ⟨b, hb, h⟩
      obtain ⟨y, f, g, k, rfl, _⟩ := hF.br _ hb
      simp only [Bool.and_eq_true, decide_eq_true_eq] at h
      obtain ⟨⟨⟨h1, h2⟩, h3⟩, h4⟩ := h
      have hx : x = y := by omega
      have hk : q = k := by omega
      subst hx hk
      have := TA.Has.node (a := a) hb ((ihs f).2 h2) ((iht g).2 h3)
      simpa using this

theorem lang_iff {a : TA} {L S : Nat} (hF : a.Fits L S) (t : Tr) : a.lang t = true ↔ ∃ k : Nat, (k : Int) ∈ a.accept ∧ a.Has t k := by
  have e : a.lang t = a.accept.any (mBit (a.mask t)) := accS_any a _ fun q hq => by obtain ⟨k, rfl, _⟩ := hF.acc q hq; simp
  rw [e, List.any_eq_true]
  constructor
  · rintro ⟨q, hq, h⟩
    obtain ⟨k, rfl, _⟩ := hF.acc q hq
    exact ⟨k, hq, (has_iff hF t k).2 h⟩
  · rintro ⟨k, hq, h⟩
    exact ⟨_, hq, (has_iff hF t k).1 h⟩

/-! ## sizes -/
def SzSound (a : TA) (cap : Nat) (sz : List Nat) : Prop := ∀ (q n : Nat), sz[q]? = some n → n ≠ 0 → n ≤ cap ∧ ∃ t, a.Has t q ∧ min t.nodes cap ≤ n
def szOf (sz : List Nat) (q : Int) : Nat := sz[q.toNat]?.getD 0
def Stable (cap : Nat) (sz : List Nat) (b : Branch) : Prop := szOf sz b.first ≠ 0 → szOf sz b.second ≠ 0 → szOf sz b.to ≠ 0 ∧ szOf sz b.to ≤ min (1 + szOf sz b.first + szOf sz b.second) cap
structure SzFix (a : TA) (cap S : Nat) (sz : List Nat) : Prop where
  len : sz.length = S
  sound : SzSound a cap sz
  lv : ∀ l ∈ a.leaves, szOf sz l.to = 1
  br : ∀ b ∈ a.branches, Stable cap sz b
theorem szOf_get {sz : List Nat} {q n : Nat} (h : sz[q]? = some n) : szOf sz (q : Int) = n := by simp [szOf, h]
theorem szOf_set {sz : List Nat} {q n : Nat} (h : q < sz.length) : szOf (sz.set q n) (q : Int) = n := by simp [szOf, h]
theorem szOf_ne {sz : List Nat} {q k n : Nat} (h : q ≠ k) : szOf (sz.set q n) (k : Int) = szOf sz (k : Int) := by simp [szOf, h]

theorem SzFix.least {a : TA} {cap S : Nat} {sz : List Nat} (h : SzFix a cap S sz) {t : Tr} {q : Int} (ht : a.Has t q) : szOf sz q ≠ 0 ∧ szOf sz q ≤ t.nodes := by
  induction ht with
  | leaf hl => rw [h.lv _ hl]; simp [Tr.nodes]
  | node hb _ _ ihs iht =>
    have := h.br _ hb ihs.1 iht.1
    refine ⟨this.1, ?_⟩
    simp only [Tr.nodes]
    omega
theorem SzFix.tree {a : TA} {cap S : Nat} {sz : List Nat} (h : SzFix a cap S sz) {q : Nat} (hq : szOf sz q ≠ 0) : szOf sz q ≤ cap ∧ ∃ t, a.Has t q ∧ (szOf sz q < cap → t.nodes = szOf sz q) ∧ (szOf sz q = cap → cap ≤ t.nodes) := by
  have hg : ∃ n, sz[q]? = some n := by
    cases hx : sz[q]? with
    | none => simp [szOf, hx] at hq
    | some n => exact ⟨n, rfl⟩
  obtain ⟨n, hn⟩ := hg
  have e := szOf_get hn
  rw [e] at hq ⊢
  obtain ⟨h1, t, h2, h3⟩ := h.sound q n hn hq
  have h4 := (h.least h2).2
  rw [e] at h4
  exact ⟨h1, t, h2, fun hlt => by omega, fun he => by omega⟩

/-! ## where the sizes come from -/
def SzFrom (a : TA) (cap : Nat) (sz : List Nat) (lf : List Int) (fr : List Branch) : Prop := ∀ (q n : Nat), sz[q]? = some n → n ≠ 0 →
  (∃ l ∈ a.leaves, l.to = q ∧ lf[q]? = some l.letter ∧ n = 1) ∨
  (lf[q]? = some (-1) ∧ ∃ b ∈ a.branches, b.to = q ∧ fr[q]? = some b ∧ szOf sz b.first ≠ 0 ∧ szOf sz b.second ≠ 0 ∧ min (1 + szOf sz b.first + szOf sz b.second) cap ≤ n)
structure GroI (a : TA) (cap S : Nat) (sz : List Nat) (lf : List Int) (fr : List Branch) : Prop where
  len : sz.length = S
  lenl : lf.length = S
  lenf : fr.length = S
  sound : SzSound a cap sz
  from_ : SzFrom a cap sz lf fr
theorem GroI.zero (a : TA) (cap S : Nat) (lf : List Int) (fr : List Branch) (h1 : lf.length = S) (h2 : fr.length = S) : GroI a cap S (List.replicate S 0) lf fr :=
  ⟨by simp, h1, h2, fun q n h hn => by simp [List.getElem?_replicate] at h; omega, fun q n h hn => by simp [List.getElem?_replicate] at h; omega⟩
theorem szOf_int {sz : List Nat} {q : Nat} : szOf sz (q : Int) = sz[q]?.getD 0 := by simp [szOf]
/-- A size that falls, at one place. -/
theorem sz_falls {sz : List Nat} {q0 n0 : Nat} (h0 : n0 ≠ 0) (hf : szOf sz q0 ≠ 0 → n0 ≤ szOf sz q0) {k : Nat} (hk : szOf sz k ≠ 0) : szOf (sz.set q0 n0) k ≠ 0 ∧ szOf (sz.set q0 n0) k ≤ szOf sz k := by
  by_cases h : q0 = k
  · subst h
    have hlt : q0 < sz.length := by
      refine Nat.lt_of_not_le fun hx => hk ?_
      rw [szOf_int, List.getElem?_eq_none hx]
      rfl
    rw [szOf_set hlt]
    exact ⟨h0, hf hk⟩
  · rw [szOf_ne h]
    exact ⟨hk, Nat.le_refl _⟩
theorem SzSound.set {a : TA} {cap : Nat} {sz : List Nat} (h : SzSound a cap sz) {q0 n0 : Nat} (hn : n0 ≤ cap) {t : Tr} (ht : a.Has t q0) (hm : min t.nodes cap ≤ n0) : SzSound a cap (sz.set q0 n0) := by
  intro q n hq hne
  by_cases e : q0 = q
  · subst e
    rw [List.getElem?_set] at hq
    simp at hq
    obtain ⟨_, rfl⟩ := hq
    exact ⟨hn, t, ht, hm⟩
  · rw [List.getElem?_set, if_neg e] at hq
    exact h q n hq hne
/-- The tree of a branch whose children have trees. -/
theorem SzSound.branch {a : TA} {cap : Nat} {sz : List Nat} (h : SzSound a cap sz) {x f g q : Nat} (hb : (⟨x, f, g, q⟩ : Branch) ∈ a.branches) (hf : szOf sz f ≠ 0) (hg : szOf sz g ≠ 0) :
    ∃ t, a.Has t q ∧ min t.nodes cap ≤ min (1 + szOf sz f + szOf sz g) cap := by
  have ex : ∀ k : Nat, szOf sz k ≠ 0 → ∃ n, sz[k]? = some n ∧ szOf sz k = n := fun k hk => by
    rw [szOf_int] at hk ⊢
    cases hx : sz[k]? with
    | none => rw [hx] at hk; exact absurd rfl hk
    | some n => exact ⟨n, rfl, rfl⟩
  obtain ⟨n1, h1, e1⟩ := ex f hf
  obtain ⟨n2, h2, e2⟩ := ex g hg
  obtain ⟨_, t1, ht1, hm1⟩ := h f n1 h1 (by omega)
  obtain ⟨_, t2, ht2, hm2⟩ := h g n2 h2 (by omega)
  refine ⟨_, TA.Has.node hb ht1 ht2, ?_⟩
  simp only [Tr.nodes]
  omega
theorem SzFrom.set {a : TA} {cap L S : Nat} {sz : List Nat} {lf lf' : List Int} {fr fr' : List Branch} (hF : a.Fits L S) (h : SzFrom a cap sz lf fr) {q0 n0 : Nat} (h0 : n0 ≠ 0) (hf : szOf sz q0 ≠ 0 → n0 ≤ szOf sz q0)
    (hl : ∀ q, q0 ≠ q → lf'[q]? = lf[q]?) (hr : ∀ q, q0 ≠ q → fr'[q]? = fr[q]?)
    (hnew : (∃ l ∈ a.leaves, l.to = q0 ∧ lf'[q0]? = some l.letter ∧ n0 = 1) ∨
      (lf'[q0]? = some (-1) ∧ ∃ b ∈ a.branches, b.to = q0 ∧ fr'[q0]? = some b ∧ szOf (sz.set q0 n0) b.first ≠ 0 ∧ szOf (sz.set q0 n0) b.second ≠ 0 ∧ min (1 + szOf (sz.set q0 n0) b.first + szOf (sz.set q0 n0) b.second) cap ≤ n0)) :
    SzFrom a cap (sz.set q0 n0) lf' fr' := by
  intro q n hq hne
  by_cases e : q0 = q
  · subst e
    rw [List.getElem?_set] at hq
    simp at hq
    obtain ⟨_, rfl⟩ := hq
    exact hnew
  · rw [List.getElem?_set, if_neg e] at hq
    rcases h q n hq hne with ⟨l, hl1, hl2, hl3, hl4⟩ | ⟨h1, b, hb, hb2, hb3, hb4, hb5, hb6⟩
    · exact .inl ⟨l, hl1, hl2, by rw [hl q e]; exact hl3, hl4⟩
    · obtain ⟨x, f, g, k, rfl, _⟩ := hF.br b hb
      dsimp only at *
      have f1 := sz_falls h0 hf hb4
      have f2 := sz_falls h0 hf hb5
      exact .inr ⟨by rw [hl q e]; exact h1, _, hb, hb2, by rw [hr q e]; exact hb3, f1.1, f2.1, by dsimp only; omega⟩
theorem GroI.leaf {a : TA} {cap L S : Nat} {sz : List Nat} {lf : List Int} {fr : List Branch} (hF : a.Fits L S) (hc : 1 ≤ cap) (h : GroI a cap S sz lf fr) {x q : Nat} (hl : (⟨x, q⟩ : Leaf) ∈ a.leaves) (hq : q < S) : GroI a cap S (sz.set q 1) (lf.set q x) fr := by
  have ht : a.Has (.leaf x) q := by simpa using TA.Has.leaf hl
  refine ⟨by rw [List.length_set, h.len], by rw [List.length_set, h.lenl], h.lenf, h.sound.set hc ht (by simp [Tr.nodes]; omega), ?_⟩
  refine h.from_.set hF (by omega) (fun hx => by omega) (fun k hk => by rw [List.getElem?_set, if_neg hk]) (fun _ _ => rfl) (.inl ⟨_, hl, rfl, ?_, rfl⟩)
  rw [List.getElem?_set]
  simp [h.lenl, hq]
theorem GroI.le {a : TA} {cap S : Nat} {sz : List Nat} {lf : List Int} {fr : List Branch} (h : GroI a cap S sz lf fr) (q : Nat) : szOf sz q ≤ cap := by
  rw [szOf_int]
  cases hx : sz[q]? with
  | none => simp
  | some n =>
    by_cases hn : n = 0
    · simp [hn]
    · exact (h.sound q n hx hn).1
theorem GroI.branch {a : TA} {cap L S : Nat} {sz : List Nat} {lf : List Int} {fr : List Branch} (hF : a.Fits L S) (hc : 2 ≤ cap) (h : GroI a cap S sz lf fr) {x f g q : Nat} (hb : (⟨x, f, g, q⟩ : Branch) ∈ a.branches) (hq : q < S)
    (hf : szOf sz f ≠ 0) (hg : szOf sz g ≠ 0) (hn : szOf sz q = 0 ∨ min (1 + szOf sz f + szOf sz g) cap < szOf sz q) :
    GroI a cap S (sz.set q (min (1 + szOf sz f + szOf sz g) cap)) (lf.set q (-1)) (fr.set q ⟨x, f, g, q⟩) := by
  obtain ⟨t, ht, hm⟩ := h.sound.branch hb hf hg
  have l1 := h.le f
  have l2 := h.le g
  have nf : q ≠ f := by rintro rfl; omega
  have ng : q ≠ g := by rintro rfl; omega
  refine ⟨by rw [List.length_set, h.len], by rw [List.length_set, h.lenl], by rw [List.length_set, h.lenf], h.sound.set (Nat.min_le_right _ _) ht hm, ?_⟩
  refine h.from_.set hF (by omega) (fun hx => by omega) (fun k hk => by rw [List.getElem?_set, if_neg hk]) (fun k hk => by rw [List.getElem?_set, if_neg hk]) (.inr ⟨?_, _, hb, rfl, ?_, ?_⟩)
  · rw [List.getElem?_set]
    simp [h.lenl, hq]
  · rw [List.getElem?_set]
    simp [h.lenf, hq]
  · dsimp only
    rw [szOf_ne nf, szOf_ne ng]
    exact ⟨hf, hg, Nat.le_refl _⟩

/-- The leaves' states stay at one. -/
theorem lv_stay {lv : List Leaf} {sz : List Nat} (h : ∀ l ∈ lv, szOf sz l.to = 1) {q n : Nat} (hp : ∀ l ∈ lv, 0 ≤ l.to) (hn : 1 ≤ n) (hq : szOf sz q = 0 ∨ n < szOf sz q) : ∀ l ∈ lv, szOf (sz.set q n) l.to = 1 := by
  intro l hl
  have h1 := h l hl
  obtain ⟨k, hk⟩ := Int.eq_ofNat_of_zero_le (hp l hl)
  rw [hk] at h1 ⊢
  have : q ≠ k := by rintro rfl; omega
  rw [szOf_ne this, h1]
theorem lv_add {lv : List Leaf} {sz : List Nat} {k : Nat} {x q : Nat} (hl : lv[k]? = some ⟨x, q⟩) (hq : q < sz.length) (hp : ∀ l ∈ lv, 0 ≤ l.to) (h : ∀ l ∈ lv.take k, szOf sz l.to = 1) : ∀ l ∈ lv.take (k + 1), szOf (sz.set q 1) l.to = 1 := by
  intro l h1
  rw [List.take_add_one, hl] at h1
  simp only [Option.toList_some, List.mem_append, List.mem_singleton] at h1
  rcases h1 with h1 | rfl
  · have h2 := h l h1
    obtain ⟨j, hj⟩ := Int.eq_ofNat_of_zero_le (hp l (List.mem_of_mem_take h1))
    rw [hj] at h2 ⊢
    by_cases e : q = j
    · subst e; exact szOf_set hq
    · rw [szOf_ne e, h2]
  · exact szOf_set hq

/-! ## the number of rounds -/
def szM (cap : Nat) (n : Nat) : Nat := if n = 0 then cap + 1 else n
def szSum (cap : Nat) (sz : List Nat) : Nat := (sz.map (szM cap)).sum
theorem szSum_set {cap n0 : Nat} : ∀ (sz : List Nat) (q : Nat), q < sz.length → szM cap n0 < szM cap (szOf sz q) → szSum cap (sz.set q n0) < szSum cap sz
  | [], q, h, _ => by simp at h
  | m :: sz, 0, _, hf => by
    simp [szOf] at hf
    simp [szSum]
    omega
  | m :: sz, q + 1, h, hf => by
    have ih := szSum_set sz q (by simpa using h) (by rw [szOf_int] at hf ⊢; simpa using hf)
    unfold szSum at ih ⊢
    simp only [List.set_cons_succ, List.map_cons, List.sum_cons]
    omega
theorem szM_falls {cap S : Nat} {a : TA} {sz : List Nat} {lf : List Int} {fr : List Branch} (h : GroI a cap S sz lf fr) {q n : Nat} (hn : n ≠ 0) (hc : n ≤ cap) (hf : szOf sz q = 0 ∨ n < szOf sz q) : szM cap n < szM cap (szOf sz q) := by
  have := h.le q
  unfold szM
  split <;> split <;> omega

/-! ## the tree that is written -/
inductive Wr (lf : List Int) (fr : List Branch) : Nat → Tr → Prop
  | leaf {q x : Nat} (h : lf[q]? = some (x : Int)) : Wr lf fr q (.leaf x)
  | node {q x f g : Nat} {to : Int} {s t : Tr} (h : lf[q]? = some (-1)) (hb : fr[q]? = some ⟨x, f, g, to⟩) (hs : Wr lf fr f s) (ht : Wr lf fr g t) : Wr lf fr q (.node x s t)
theorem wr_of {a : TA} {cap L S : Nat} {sz : List Nat} {lf : List Int} {fr : List Branch} (hF : a.Fits L S) (hI : SzFrom a cap sz lf fr) (hX : SzFix a cap S sz) : ∀ (n q : Nat), szOf sz q = n → n ≠ 0 → n < cap → ∃ t, Wr lf fr q t ∧ a.Has t q ∧ t.nodes = n := by
  intro n
  induction n using Nat.strongRecOn with
  | _ n ih =>
    intro q hq hn hc
    have hg : sz[q]? = some n := by
      rw [szOf_int] at hq
      cases hx : sz[q]? with
      | none => rw [hx] at hq; simp at hq; omega
      | some m => rw [hx] at hq; simp at hq; rw [hq]
    rcases hI q n hg hn with ⟨l, hl, hto, hlf, h1⟩ | ⟨h1, b, hb, hto, hfr, hb4, hb5, hb6⟩
    · obtain ⟨x, k, rfl, _⟩ := hF.lv l hl
      dsimp only at hto hlf
      have : k = q := by omega
      subst this
      exact ⟨.leaf x, .leaf hlf, by simpa using TA.Has.leaf hl, by rw [h1]; rfl⟩
    · obtain ⟨x, f, g, k, rfl, _⟩ := hF.br b hb
      dsimp only at *
      have e : k = q := by omega
      subst e
      have hst := hX.br _ hb hb4 hb5
      dsimp only at hst
      obtain ⟨t1, w1, p1, n1⟩ := ih (szOf sz f) (by omega) f rfl hb4 (by omega)
      obtain ⟨t2, w2, p2, n2⟩ := ih (szOf sz g) (by omega) g rfl hb5 (by omega)
      refine ⟨.node x t1 t2, .node h1 hfr w1 w2, by simpa using TA.Has.node hb p1 p2, ?_⟩
      simp only [Tr.nodes, n1, n2]
      omega
end Go.Proofs.Ytnimlcbgeiajiaa

namespace Go.Proofs.Ytnimlcbgeiajiaa
open Go.RowKit

def accT (a : TA) (sh lb : List Int) : Value := if a.valid && validT a.letters sh lb then .tuple #[.bool (a.lang (treeOf sh lb)), .int .i64 0] else .tuple #[.bool false, .int .i64 1]

theorem stk_nil_at {sh lb : List Int} {i : Nat} (h : sh.length ≤ i) : stk (sh.drop i) (lb.drop i) = some [] := by
  rw [List.drop_eq_nil_of_le h]
  simp [stk]
theorem masks_get {a : TA} {t1 t2 : Tr} {r : List Tr} : (masks a (t1 :: t2 :: r))[r.length]? = some (.int .u64 (a.mask t2 : Int)) ∧ (masks a (t1 :: t2 :: r))[r.length + 1]? = some (.int .u64 (a.mask t1 : Int)) := by
  rw [masks_two]
  constructor
  · rw [List.getElem?_append_right (by rw [masks_len]; omega), masks_len, Nat.sub_self]; rfl
  · rw [List.getElem?_append_right (by rw [masks_len]; omega), masks_len, Nat.add_sub_cancel_left]; rfl
theorem masks_take {a : TA} {t1 t2 : Tr} {r : List Tr} : (masks a (t1 :: t2 :: r)).take (r.length * 1) = masks a r := by
  rw [masks_two, Nat.mul_one, List.take_append_of_le_length (by rw [masks_len]; omega), List.take_of_length_le (by rw [masks_len]; omega)]
theorem TA.valid_parts {a : TA} (h : a.valid = true) : 1 ≤ a.letters ∧ a.letters ≤ 8 ∧ 0 ≤ a.states ∧ a.states ≤ 64 ∧ a.accept.all (inR · 0 a.states) = true ∧ (∀ q ∈ a.accept, 0 ≤ q ∧ q < 64) ∧ (∀ e ∈ a.leaves, e.to < 64) ∧ (∀ e ∈ a.branches, e.to < 64) := by
  simp only [TA.valid, TA.head, Bool.and_eq_true, decide_eq_true_eq] at h
  obtain ⟨⟨⟨⟨⟨⟨h1, h2⟩, h3⟩, h4⟩, h5⟩, h6⟩, h7⟩ := h
  refine ⟨h1, h2, h3, h4, h5, fun q hq => ?_, fun e he => ?_, fun e he => ?_⟩
  · have := List.all_eq_true.1 h5 q hq
    simp only [inR, Bool.and_eq_true, decide_eq_true_eq] at this
    omega
  · have := List.all_eq_true.1 h6 e he
    simp only [okLeaf, inR, Bool.and_eq_true, decide_eq_true_eq] at this
    omega
  · have := List.all_eq_true.1 h7 e he
    simp only [okBranch, inR, Bool.and_eq_true, decide_eq_true_eq] at this
    omega
theorem TA.mask_u64 {a : TA} (h : a.valid = true) (t : Tr) : U64 (a.mask t) := by
  obtain ⟨-, -, -, -, -, -, h1, h2⟩ := TA.valid_parts h
  cases t with
  | leaf x => exact U64.leafM h1
  | node x s t => exact U64.brM fun e he => h2 e (List.mem_filter.1 he).1

theorem own_cap {w : World} {base size n c : Nat} {e : TypeId} {g : Addr} {xs : List Value} (h : w.ownsRow base e size (.slice (some g) n c) n xs) : n ≤ c := by
  rcases h.2 with ⟨h1, _⟩ | ⟨g', cap', cur, hv, _, _, hc, _⟩
  · cases h1
  · injection hv with _ _ hv
    omega
set_option maxHeartbeats 8000000 in
set_option maxRecDepth 100000 in
theorem accepts_any {v : Value} {a : TA} {w : World} {B1 B2 c1' c2' : Nat} {D1 D2 : Option Addr} {sh lb : List Int} (h : IsTA w w.heap.size v a) (hs : Sl w B1 1 encI D1 sh) (hl : Sl w B2 1 encI D2 lb) (hB1 : B1 ≤ w.heap.size) (hB2 : B2 ≤ w.heap.size) :
    Calls Try.prog 28 #[v, .slice D1 sh.length c1', .slice D2 lb.length c2'] w (Ret fun r w' => r = accT a sh lb ∧ Below w.heap.size w w') := by
  have hIn := h
  obtain ⟨A1, c1, A2, c2, A3, c3, rfl, h1, h2, h3⟩ := h
  obtain ⟨w1, hw1, hb1, hB, hk1⟩ := box_blk w #[.int .i64 a.letters, .int .i64 a.states, .slice A1 a.accept.length c1, .slice A2 a.leaves.length c2, .slice A3 a.branches.length c3] 26
  have hcb := hB.cell
  have hsz := hb1.size
  have hT : IsTA w1 w1.heap.size (.agg #[.int .i64 a.letters, .int .i64 a.states, .slice A1 a.accept.length c1, .slice A2 a.leaves.length c2, .slice A3 a.branches.length c3]) a :=
    ⟨A1, c1, A2, c2, A3, c3, rfl, (h1.below hb1).mono hsz, (h2.below hb1).mono hsz, (h3.below hb1).mono hsz⟩
  have hHB := hide hB
  have hHT := hide hT
  have hn1 := h1.1
  have hns := hs.1
  have hnl := hl.1
  clear hT
  cases hv : a.valid
  · have hV := hide hv
    clear hv
    have he : Hid (accT a sh lb = .tuple #[.bool false, .int .i64 1]) := by show _ = _; simp [accT, hV.out]
    go_enter Try.func28, Try.ntmps28
    go_wp2_with (go_at_call 18; refine (validate_any _ _ _ hHT.out).mono ?_; rintro e w' ⟨rfl, hb⟩; rw [hV.out]; simp only [errno]; have hb2 := hide hb; clear hb)
    go_ret2
    exact ⟨he.out.symm, hb1.trans (hb2.out.mono hsz)⟩
  · have hV := hide hv
    clear hv
    cases hvt : validT a.letters sh lb
    · have hVT := hide hvt
      clear hvt
      have he : Hid (accT a sh lb = .tuple #[.bool false, .int .i64 1]) := by show _ = _; simp [accT, hVT.out]
      go_enter Try.func28, Try.ntmps28
      go_wp2_with (first | (go_at_call 18; refine (validate_any _ _ _ hHT.out).mono ?_; rintro e w2 ⟨rfl, hb⟩; rw [hV.out]; simp only [errno]; have hb2 := hide hb; have hcb2 := (hB.kept (Kept.of_below hb (fun _ => False)) id).cell; have hs2 := hide ((hs.mono hB1).below (hb1.trans (hb.mono hsz))); have hl2 := hide ((hl.mono hB2).below (hb1.trans (hb.mono hsz))); clear hb) | (go_at_call 42; refine (validTree_any hs2.out hl2.out).mono ?_; rintro e w3 ⟨rfl, rfl⟩; rw [hVT.out]))
      go_ret2
      exact ⟨he.out.symm, hb1.trans (hb2.out.mono hsz)⟩
    · obtain ⟨hst, hok, hlen, hn1', hn2'⟩ := validT_tree hvt
      have hgo : vtGo a.letters 1 sh lb = true := by
        simp only [validT, Bool.and_eq_true] at hvt
        exact hvt.2
      have hVT := hide hvt
      have hST := hide hst
      have hGO := hide hgo
      have hLEN := hide hlen
      clear hvt hst hgo hlen
      obtain ⟨hL1, hL8, hS0, hS64, -, hacc, -, -⟩ := TA.valid_parts hV.out
      have hACC := hide hacc
      clear hacc
      go_enter Try.func28, Try.ntmps28
      go_wp2_with (first | (go_at_call 18; refine (validate_any _ _ _ hHT.out).mono ?_; rintro e w2 ⟨rfl, hb⟩; rw [hV.out]; simp only [errno]; have hb2 := hide hb; have hcb2 := (hB.kept (Kept.of_below hb (fun _ => False)) id).cell; have hs2 := hide ((hs.mono hB1).below (hb1.trans (hb.mono hsz))); have hl2 := hide ((hl.mono hB2).below (hb1.trans (hb.mono hsz))); clear hb) | (go_at_call 42; refine (validTree_any hs2.out hl2.out).mono ?_; rintro e w3 ⟨rfl, rfl⟩; rw [hVT.out]))
      have hW2 := hb2.out
      clear hs2 hl2 hcb2 hcb
      go_loopw [9, 10] (fun kk ii wr => ∃ (i : Nat) (s : List Tr), ii = .int .i64 ((i : Int) - 1) ∧ i ≤ sh.length ∧ Hid (stk (sh.drop i) (lb.drop i) = some s) ∧ Hid (wr.ownsRow w1.heap.size 70 1 kk s.length (masks a s)) ∧ Hid (i + s.length ≤ sh.length + 1) ∧ Below w1.heap.size w1 wr) (fun _ ii _ => (intOf ii + 1).toNat)
      case atStart => exact ⟨sh.length, [], rfl, Nat.le_refl _, stk_nil_at (Nat.le_refl _), own_nil, Nat.le_succ _, hW2⟩
      case round =>
        obtain ⟨i, s, rfl, hi, hs3, hown, hsl, hbr⟩ := hrel
        have hBr := hB.kept (Kept.of_below hbr (fun _ => False)) id
        have hcbr := hBr.cell
        have hszr := hbr.size
        obtain ⟨A, c, rfl⟩ := slice_of_own hown.out
        by_cases hlt : 0 < i
        · obtain ⟨k, rfl⟩ : ∃ k, i = k + 1 := ⟨i - 1, by omega⟩
          rw [show (((k + 1 : Nat) : Int) - 1) = (k : Int) from by omega]
          obtain ⟨cd, l, s', hc, hl', hl0, hs', hcase⟩ := stk_at sh lb 1 (by omega) hGO.out k (by omega)
          have hss : s' = s := by
            have := hs3.out
            rw [hs'] at this
            exact Option.some.inj this
          subst hss
          obtain ⟨x, rfl⟩ := Int.eq_ofNat_of_zero_le hl0
          simp only [Int.toNat_natCast] at hcase
          obtain ⟨b1, o1, c', rfl, hb1', hc', hcc⟩ := hs.at (k := k) (by omega)
          obtain ⟨b2, o2, l', rfl, hb2', hl'', hlc⟩ := hl.at (k := k) (by rw [hLEN.out]; omega)
          rw [hc] at hc'
          rw [hl'] at hl''
          injection hc' with hc'
          injection hl'' with hl''
          subst hc' hl''
          have hc0 := (hbr.cell (by show b1 < _; omega)).trans ((hb1.cell (by show b1 < _; omega)).trans (hcc 0 (by omega)))
          have hl0' := (hbr.cell (by show b2 < _; omega)).trans ((hb1.cell (by show b2 < _; omega)).trans (hlc 0 (by omega)))
          simp only [Nat.mul_one, Nat.add_zero, encI] at hc0 hl0'
          have hTr : IsTA wr.drew wr.drew.heap.size (.agg #[.int .i64 a.letters, .int .i64 a.states, .slice A1 a.accept.length c1, .slice A2 a.leaves.length c2, .slice A3 a.branches.length c3]) a := hHT.out.keep (fun _ hp => hbr.drew.cell hp) hszr
          have hTR := hide hTr
          have hownd := hide ((Kept.refl wr (fun _ => False)).drew.ownsRow hown.out (fun _ _ => id))
          have hszd : wr.drew.heap.size = wr.heap.size := rfl
          have hkl := hLEN.out
          have hKL := hide hkl
          have hklb : k < lb.length := by omega
          clear hc hl' hs' hcc hlc hl0 hTr hs3 hkl
          have hcount := hsl.out
          rcases hcase with ⟨rfl, hnext⟩ | ⟨rfl, t1, t2, r, rfl, hnext⟩
          · have hNX := hide hnext
            clear hnext
            go_wp2_with fail
            refine Reg.region_plain [0, 0, 0, 6, 14, 31, 63] (by kernel_rfl) (by repeat (first | exact Reg.NoQ.body (fun _ _ h => h) (fun _ h => h) | refine Reg.NoQ.then ?_ | refine Reg.NoQ.inBlock ?_)) ?_
            go_wp2_with (first | (go_at_call 53; refine Calls.ret (leafSet_any _ a _ x hTR.out hV.out) ?_; rintro v w3 ⟨rfl, hU, hb3⟩; have hU3 := hide hU; have hb33 := hide hb3; have hsz3 := hb3.size; have hbase3 : w1.heap.size ≤ w3.heap.size := by omega
                                  have hown3 := (Kept.of_below hb3 (fun _ => False)).ownsRow hownd.out (fun _ _ => id); clear hU hb3) | (at_builtin; refine wpList_app_new row69 rfl _ _ rfl w1.heap.size (.slice A s'.length c) s'.length _ rfl hown3 [.int .u64 (a.leafS x : Int)] 1 rfl rfl (by simp [Value.oneCell']) (by omega) hbase3 ?_; intro g cap' w4 hown4 hk4 hmv4 hg4))
            refine ⟨⟨k, .leaf x :: s', by go_num, by omega, hNX.out, ?_, by show _ ≤ _; simp; omega, ?_⟩, by simp [intOf]⟩
            · show World.ownsRow _ _ _ _ _ _ _
              rw [masks_cons]
              exact hown4
            · refine (hbr.drew.trans (hb33.out.mono hszr)).trans (hk4.below hbase3 (fun b hb e => ?_))
              have := own_base hown3 e
              omega
          · have hNX := hide hnext
            clear hnext
            simp only [List.length_cons] at *
            have hg1 := hide (own_get hown.out (masks_get (a := a) (t1 := t1) (t2 := t2) (r := r)).1)
            have hg2 := hide (own_get hown.out (masks_get (a := a) (t1 := t1) (t2 := t2) (r := r)).2)
            obtain ⟨g, cap, hv1, hcl1⟩ := hg1.out
            obtain ⟨g', cap', hv2, hcl2⟩ := hg2.out
            injection hv1 with hv1 _ hv1c
            injection hv2 with hv2 _ hv2c
            subst hv1 hv1c hv2c
            injection hv2 with hv2
            injection hv2 with hv2
            subst hv2
            have hcap := own_cap hown.out
            clear hg1 hg2
            have hU1 := TA.mask_u64 hV.out t1
            have hU2 := TA.mask_u64 hV.out t2
            go_wp2_with fail
            refine Reg.region_ints' [0, 0, 0, 6, 14, 0, 0, 64, 224, 480, 0, 0, 2048, 7168, 15360, 32767, 65535] (by kernel_rfl) (by repeat (first | exact Reg.NoQ.body (fun _ _ h => h) (fun _ h => h) | refine Reg.NoQ.then ?_ | refine Reg.NoQ.inBlock ?_)) ?_
            intro Qf hQf
            go_wp2_with (go_at_call 54; refine Calls.ret (branchSet_any _ a _ x (a.mask t1) (a.mask t2) hTR.out hV.out hU1 hU2) ?_; rintro v w3 ⟨rfl, hU, hb3⟩; have hU3 := hide hU; have hb33 := hide hb3; have hsz3 := hb3.size; have hbase3 : w1.heap.size ≤ w3.heap.size := by omega
                         have hown3 := (Kept.of_below hb3 (fun _ => False)).ownsRow hownd.out (fun _ _ => id); clear hU hb3)
            refine ⟨rfl, ?_⟩
            have hown5 := own_shrink (m := r.length) hown3 (by omega)
            rw [masks_take] at hown5
            go_wp2_with (at_builtin; refine wpList_app_new row69 rfl _ _ rfl w1.heap.size (.slice (some ⟨g, 0, none⟩) r.length c) r.length _ rfl hown5 [.int .u64 (a.brS x (a.mask t1) (a.mask t2) : Int)] 1 rfl rfl (by simp [Value.oneCell']) (by omega) hbase3 ?_; intro g2 cap' w4 hown4 hk4 hmv4 hg4)
            refine ⟨⟨k, .node x t1 t2 :: r, by go_num, by omega, hNX.out, ?_, by show _ ≤ _; simp; omega, ?_⟩, by simp [intOf]⟩
            · show World.ownsRow _ _ _ _ _ _ _
              rw [masks_cons]
              exact hown4
            · refine (hbr.drew.trans (hb33.out.mono hszr)).trans (hk4.below hbase3 (fun b hb e => ?_))
              have := own_base hown5 e
              omega
        · have hi0 : i = 0 := by omega
          subst hi0
          rw [show (((0 : Nat) : Int) - 1) = -1 from rfl]
          have hs4 : s = [treeOf sh lb] := by
            have := hs3.out
            rw [List.drop_zero, List.drop_zero, hST.out] at this
            exact (Option.some.inj this).symm
          subst hs4
          obtain ⟨g, cap, hv1, hcl⟩ := own_get (k := 0) hown.out (u := .int .u64 (a.mask (treeOf sh lb) : Int)) (by simp [masks])
          injection hv1 with hv1 _ hv1c
          subst hv1 hv1c
          have hU := TA.mask_u64 hV.out (treeOf sh lb)
          have hfin : Hid (accT a sh lb = .tuple #[.bool (a.accept.any (mBit (a.mask (treeOf sh lb)))), .int .i64 0]) := by
            show _ = _
            have : a.lang (treeOf sh lb) = a.accept.any (mBit (a.mask (treeOf sh lb))) := accS_any a _ fun q hq => (hACC.out q hq).1
            simp [accT, hV.out, hVT.out, this]
          have hbW := hide (hb1.trans (hbr.mono hsz))
          clear hs3 hown hsl
          go_wp2_with fail
          go_loop [73] (fun jj => ∃ (j : Nat), jj = .int .i64 (j : Int) ∧ j ≤ a.accept.length ∧ Hid (∀ j', j' < j → ∀ q, a.accept[j']? = some q → mBit (a.mask (treeOf sh lb)) q = false)) (fun jj => a.accept.length - (intOf jj).toNat)
          case atStart => exact ⟨0, rfl, Nat.zero_le _, fun j hj => absurd hj (by omega)⟩
          case round =>
            obtain ⟨j, rfl, hj, hE⟩ := hrel
            by_cases hlt2 : j < a.accept.length
            · obtain ⟨b, off, q, rfl, hbb, hx, hc⟩ := h1.at hlt2
              have hc0 := (hbW.out.cell (by exact hbb)).trans (hc 0 (by omega))
              simp only [Nat.mul_one, Nat.add_zero, encI] at hc0
              obtain ⟨hq0, hq1⟩ := hACC.out q (List.mem_of_getElem? hx)
              have hX := hide hx
              clear hx hc
              cases hbt : mBit (a.mask (treeOf sh lb)) q
              · have hBT := hide hbt
                go_wp2_with fail
                refine ⟨⟨j + 1, by go_num, by omega, fun j' hj' q' hq' => ?_⟩, by simp [intOf]; omega⟩
                by_cases hjk : j' = j
                · subst hjk
                  rw [hX.out] at hq'
                  injection hq' with hq'
                  subst hq'
                  exact hBT.out
                · exact hE.out j' (by omega) q' hq'
              · have hBT := hide hbt
                go_wp2_with fail
                go_ret2
                refine ⟨?_, hbW.out⟩
                have : a.accept.any (mBit (a.mask (treeOf sh lb))) = true := List.any_eq_true.2 ⟨_, List.mem_of_getElem? hX.out, hBT.out⟩
                rw [hfin.out, this]
                rfl
            · go_wp2_with fail
              go_ret2
              refine ⟨?_, hbW.out⟩
              have : a.accept.any (mBit (a.mask (treeOf sh lb))) = false := List.any_eq_false.2 fun q hq => by
                obtain ⟨j', hj'⟩ := List.mem_iff_getElem?.1 hq
                rw [hE.out j' (by have := lt_of_get hj'; omega) q hj']
                simp
              rw [hfin.out, this]
              rfl
end Go.Proofs.Ytnimlcbgeiajiaa

namespace Go.Proofs.Ytnimlcbgeiajiaa
open Go.RowKit

theorem tb_fold {A : Type} {f : A → Int} {c : A → Bool} (r : Nat) : ∀ (l : List A) (m : Nat), (l.foldl (fun m e => if c e = true then setB m (f e) else m) m).testBit r = (m.testBit r || l.any fun e => c e && decide ((f e).toNat = r))
  | [], m => by simp
  | e :: l, m => by
    rw [List.foldl_cons, tb_fold r l, List.any_cons, ← Bool.or_assoc]
    congr 1
    cases hc : c e
    · simp
    · simp [setB, mOr, mPow, Nat.testBit_or, Nat.testBit_two_pow]

theorem mem_plLv {lf : List Nat} {e : Leaf} : e ∈ plLv lf ↔ ∃ x, x < lf.length ∧ e = ⟨(x : Int), (mleaf lf x : Int)⟩ := by
  simp only [plLv, List.mem_map, List.mem_range]
  constructor
  · rintro ⟨x, hx, rfl⟩; exact ⟨x, hx, rfl⟩
  · rintro ⟨x, hx, rfl⟩; exact ⟨x, hx, rfl⟩
theorem mem_plBr {L n : Nat} {t : List (List (List Nat))} {e : Branch} : e ∈ plBr L n t ↔ ∃ x i j, x < L ∧ i < n ∧ j < n ∧ e = ⟨(x : Int), (i : Int), (j : Int), (mbr t x i j : Int)⟩ := by
  simp only [plBr, List.mem_flatMap, List.mem_map, List.mem_range]
  constructor
  · rintro ⟨x, hx, i, hi, j, hj, rfl⟩; exact ⟨x, i, j, hx, hi, hj, rfl⟩
  · rintro ⟨x, i, j, hx, hi, hj, rfl⟩; exact ⟨x, hx, i, hi, j, hj, rfl⟩
theorem mem_accIdx {ac : List Bool} {i : Nat} : i ∈ accIdx ac ↔ i < ac.length ∧ macc ac i = true := by simp [accIdx, List.mem_filter]

section
variable {L : Nat} {ac : List Bool} {lf : List Nat} {t : List (List (List Nat))}
theorem plain_valid (h : MOK L ac lf t) (h1 : 1 ≤ L) (h8 : L ≤ 8) (hn : ac.length ≤ 64) : (plainA L ac lf t).valid = true := by
  simp only [TA.valid, TA.head, plainA, Bool.and_eq_true]
  refine ⟨⟨⟨⟨⟨⟨decide_eq_true (by omega), decide_eq_true (by omega)⟩, decide_eq_true (by omega)⟩, decide_eq_true (by omega)⟩, ?_⟩, ?_⟩, ?_⟩
  · rw [List.all_eq_true]
    intro q hq
    obtain ⟨i, hi, rfl⟩ := List.mem_map.1 hq
    have := (mem_accIdx.1 hi).1
    simp [inR]; omega
  · rw [List.all_eq_true]
    intro e he
    obtain ⟨x, hx, rfl⟩ := mem_plLv.1 he
    rw [h.lfl] at hx
    have := h.isM.leaf_lt x hx
    simp [okLeaf, inR]; omega
  · rw [List.all_eq_true]
    intro e he
    obtain ⟨x, i, j, hx, hi, hj, rfl⟩ := mem_plBr.1 he
    have := h.isM.br_lt x i j hx hi hj
    simp [okBranch, inR]; omega
theorem plain_leaf (h : MOK L ac lf t) {x : Nat} (hx : x < L) : (plainA L ac lf t).leafS x = 2 ^ mleaf lf x := by
  apply Nat.eq_of_testBit_eq
  intro r
  show (leafM (plLv lf) x).testBit r = _
  have := tb_fold (f := fun e : Leaf => e.to) (c := fun e => decide (e.letter = (x : Int))) r (plLv lf) 0
  simp only [decide_eq_true_eq] at this
  unfold leafM
  rw [this, Nat.testBit_two_pow, Nat.zero_testBit, Bool.false_or, Bool.eq_iff_iff, List.any_eq_true, decide_eq_true_eq]
  constructor
  · rintro ⟨e, he, h2⟩
    obtain ⟨x', -, rfl⟩ := mem_plLv.1 he
    simp at h2
    obtain ⟨h4, h3⟩ := h2
    obtain rfl : x' = x := by omega
    exact h3
  · rintro rfl
    exact ⟨_, mem_plLv.2 ⟨x, by rw [h.lfl]; exact hx, rfl⟩, by simp⟩
theorem plain_br {x p q : Nat} (hx : x < L) (hp : p < ac.length) (hq : q < ac.length) : (plainA L ac lf t).brS x (2 ^ p) (2 ^ q) = 2 ^ mbr t x p q := by
  apply Nat.eq_of_testBit_eq
  intro r
  show (brM (2 ^ p) (2 ^ q) (byL (plBr L ac.length t) x)).testBit r = _
  have := tb_fold (f := fun e : Branch => e.to) (c := fun e => mBit (2 ^ p) e.first && mBit (2 ^ q) e.second) r (byL (plBr L ac.length t) x) 0
  unfold brM
  rw [this, Nat.testBit_two_pow, Nat.zero_testBit, Bool.false_or, Bool.eq_iff_iff, List.any_eq_true, decide_eq_true_eq]
  constructor
  · rintro ⟨e, he, h2⟩
    obtain ⟨he, hl⟩ := List.mem_filter.1 he
    obtain ⟨x', i, j, -, -, -, rfl⟩ := mem_plBr.1 he
    simp [mBit, Nat.testBit_two_pow] at h2 hl
    obtain ⟨⟨rfl, rfl⟩, h3⟩ := h2
    obtain rfl : x' = x := by omega
    exact h3
  · rintro rfl
    exact ⟨_, List.mem_filter.2 ⟨mem_plBr.2 ⟨x, p, q, hx, hp, hq, rfl⟩, by simp⟩, by simp [mBit]⟩
theorem plain_mask (h : MOK L ac lf t) : ∀ tr : Tr, tr.ok L → (plainA L ac lf t).mask tr = 2 ^ runT (mleaf lf) (mbr t) tr
  | .leaf _, hx => plain_leaf h hx
  | .node x a b, hx => by
    show (plainA L ac lf t).brS x ((plainA L ac lf t).mask a) ((plainA L ac lf t).mask b) = _
    rw [plain_mask h a hx.2.1, plain_mask h b hx.2.2]
    exact plain_br hx.1 (h.isM.run_lt a hx.2.1) (h.isM.run_lt b hx.2.2)
theorem plain_lang (h : MOK L ac lf t) (tr : Tr) (ht : tr.ok L) : (plainA L ac lf t).lang tr = macc ac (runT (mleaf lf) (mbr t) tr) := by
  show (plainA L ac lf t).accS ((plainA L ac lf t).mask tr) = _
  have hlt := h.isM.run_lt tr ht
  rw [plain_mask h tr ht, accS_any _ _ (fun q hq => by
    obtain ⟨i, -, rfl⟩ := List.mem_map.1 hq
    omega), Bool.eq_iff_iff, List.any_eq_true]
  constructor
  · rintro ⟨q, hq, h2⟩
    obtain ⟨i, hi, rfl⟩ := List.mem_map.1 hq
    simp [mBit, Nat.testBit_two_pow] at h2
    subst h2
    exact (mem_accIdx.1 hi).2
  · intro h2
    exact ⟨_, List.mem_map.2 ⟨_, mem_accIdx.2 ⟨hlt, h2⟩, rfl⟩, by simp [mBit]⟩
theorem nodup_le : ∀ (n : Nat) (l : List Nat), l.Nodup → (∀ x ∈ l, ∃ p, p < n ∧ x = 2 ^ p) → l.length ≤ n
  | 0, l, _, h => by
    cases l with
    | nil => simp
    | cons x l =>
      obtain ⟨p, hp, -⟩ := h x List.mem_cons_self
      omega
  | n + 1, l, hn, h => by
    have h1 := nodup_le n (l.erase (2 ^ n)) (hn.erase _) (fun x hx => by
      have hx2 := (hn.mem_erase_iff).1 hx
      obtain ⟨p, hp, e⟩ := h x hx2.2
      refine ⟨p, ?_, e⟩
      have : p ≠ n := fun e2 => hx2.1 (by rw [e, e2])
      omega)
    rw [List.length_erase] at h1
    split at h1 <;> omega
theorem plain_small (h : MOK L ac lf t) (hn : ac.length ≤ 64) : ¬ (plainA L ac lf t).Large := by
  rintro ⟨l, hnd, hr, hlen⟩
  have := nodup_le ac.length l hnd fun s hs => by
    obtain ⟨tr, htr, rfl⟩ := reach_run.1 (hr s hs)
    have htr' : tr.ok L := by simpa [plainA] using htr
    exact ⟨_, h.isM.run_lt tr htr', plain_mask h tr htr'⟩
  omega
end

theorem flatMap_same {A B : Type} {l : List A} {f g : A → List B} (h : ∀ x ∈ l, f x = g x) : l.flatMap f = l.flatMap g := by
  induction l with
  | nil => rfl
  | cons x l ih => rw [List.flatMap_cons, List.flatMap_cons, h x List.mem_cons_self, ih fun y hy => h y (List.mem_cons_of_mem _ hy)]
theorem plain_same {L : Nat} {ac ac' : List Bool} {lf lf' : List Nat} {t t' : List (List (List Nat))} {Λ Λ' : Tr → Bool} (h : MOK L ac lf t) (h' : MOK L ac' lf' t') (hc : Canon L ac.length (mleaf lf) (mbr t) (macc ac) Λ)
    (hc' : Canon L ac'.length (mleaf lf') (mbr t') (macc ac') Λ') (hΛ : ∀ tr : Tr, tr.ok L → Λ tr = Λ' tr) : plainA L ac' lf' t' = plainA L ac lf t := by
  obtain ⟨hn, h1, h2, h3⟩ := Canon.unique hc hc' hΛ
  have e1 : accIdx ac' = accIdx ac := by
    unfold accIdx
    rw [← hn]
    exact List.filter_congr fun x hx => (h3 x (List.mem_range.1 hx)).symm
  have e2 : plLv lf' = plLv lf := by
    unfold plLv
    rw [h.lfl, h'.lfl]
    exact List.map_congr_left fun x hx => by rw [h1 x (List.mem_range.1 hx)]
  have e3 : plBr L ac'.length t' = plBr L ac.length t := by
    unfold plBr
    rw [← hn]
    refine flatMap_same fun x hx => flatMap_same fun i hi => List.map_congr_left fun j hj => ?_
    rw [h2 x i j (List.mem_range.1 hx) (List.mem_range.1 hi) (List.mem_range.1 hj)]
  unfold plainA
  rw [e1, e2, e3, hn]

/-! ## its memory -/
theorem flat2 (l : List Leaf) : ∀ (k j : Nat) (b : Leaf), l[k]? = some b → j < 2 → (l.flatMap lvCells)[k * 2 + j]? = some (encL b j) := by
  induction l with
  | nil => intro k j b h; simp at h
  | cons c l ih =>
    intro k j b h hj
    rw [List.flatMap_cons]
    cases k with
    | zero =>
      simp at h; subst h
      rw [List.getElem?_append_left (by simp [lvCells]; omega)]
      match j, hj with
      | 0, _ => simp [lvCells, encL]
      | 1, _ => simp [lvCells, encL]
    | succ k =>
      simp at h
      rw [List.getElem?_append_right (by simp [lvCells]; omega)]
      have := ih k j b h hj
      rw [show (k + 1) * 2 + j - (lvCells c).length = k * 2 + j from by simp [lvCells]; omega]
      exact this
theorem sl_own {D : Type} {w : World} {base sz : Nat} {e : TypeId} {v : Value} {enc : D → Nat → Value} {ds : List D} {xs : List Value} (h : w.ownsRow base e sz v ds.length xs) (hx : ∀ (k j : Nat) (d : D), ds[k]? = some d → j < sz → xs[k * sz + j]? = some (enc d j)) :
    ∃ A c, v = .slice A ds.length c ∧ Sl w w.heap.size sz enc A ds := by
  obtain ⟨hl, hh⟩ := h
  rcases hh with ⟨rfl, h0⟩ | ⟨g, cap, cur, rfl, hb, hg, hc, hm, hs, ht⟩
  · have : ds = [] := List.length_eq_zero_iff.1 h0
    subst this
    exact ⟨none, 0, rfl, Sl.nil rfl⟩
  · refine ⟨_, _, rfl, by unfold maxLen at hm; omega, fun _ => ⟨g, 0, rfl, (Array.getElem?_eq_some_iff.1 hg).1, fun k d hd j hj => ?_⟩⟩
    rw [cell_of_row w g _ cur e (0, 0) hg, Nat.zero_add, ← hx k j d hd hj, ← ht, List.getElem?_take]
    have hk := lt_of_get hd
    have : k * sz + j < ds.length * sz := by
      have : (k + 1) * sz ≤ ds.length * sz := Nat.mul_le_mul_right _ hk
      rw [Nat.succ_mul] at this
      omega
    simp [this]
theorem own_ta {w : World} {base L : Nat} {v : Value} {ac : List Bool} {lf : List Nat} {t : List (List (List Nat))} (h : OwnTA w base v L ac.length (accIdx ac) (plLv lf) (plBr L ac.length t)) : IsTA w w.heap.size v (plainA L ac lf t) := by
  obtain ⟨va, vl, vb, rfl, h1, h2, h3⟩ := h
  have h1' : w.ownsRow base 3 1 va ((accIdx ac).map fun i : Nat => (i : Int)).length ((accIdx ac).map encN) := by simpa using h1
  obtain ⟨A1, c1, rfl, s1⟩ := sl_own (enc := encI) h1' (fun k j d hd hj => by
    have hj0 : j = 0 := by omega
    subst hj0
    rw [List.getElem?_map] at hd
    rw [Nat.mul_one, Nat.add_zero, List.getElem?_map]
    cases hk : (accIdx ac)[k]? with
    | none => rw [hk] at hd; cases hd
    | some i =>
      rw [hk] at hd
      have := Option.some.inj hd
      subst this
      rfl)
  obtain ⟨A2, c2, rfl, s2⟩ := sl_own (enc := encL) h2 (fun k j d hd hj => flat2 _ k j d hd hj)
  obtain ⟨A3, c3, rfl, s3⟩ := sl_own (enc := encBr) h3 (fun k j d hd hj => flat4 _ k j d hd hj)
  exact ⟨A1, c1, A2, c2, A3, c3, rfl, s1, s2, s3⟩

theorem plBr_len {L n : Nat} {t : List (List (List Nat))} : (plBr L n t).length = L * (n * n) := by
  unfold plBr
  simp [List.length_flatMap, List.map_const', List.sum_replicate_nat]
/-- Both automata give the same answer on all trees. -/
theorem keep_acc {a : TA} {ac : List Bool} {lf : List Nat} {t : List (List (List Nat))} (hv : a.valid = true) (h : MOK a.letters.toNat ac lf t) (hn : ac.length ≤ 64) (hc : Canon a.letters.toNat ac.length (mleaf lf) (mbr t) (macc ac) a.lang) (sh lb : List Int) :
    accT (plainA a.letters.toNat ac lf t) sh lb = accT a sh lb := by
  obtain ⟨h1, h8, -, -, -, -, -, -⟩ := TA.valid_parts hv
  have hpv := plain_valid h (by omega) (by omega) hn
  have hl : (plainA a.letters.toNat ac lf t).letters = a.letters := by simp [plainA]; omega
  unfold accT
  rw [hpv, hv, hl]
  cases hvt : validT a.letters sh lb
  · rfl
  · have hok := (validT_tree hvt).2.1
    rw [plain_lang h _ hok, hc.lang _ hok]
end Go.Proofs.Ytnimlcbgeiajiaa

namespace Go.Proofs.Ytnimlcbgeiajiaa
open Go.RowKit

def zTA : TA := ⟨0, 0, [], [], []⟩
/-- The error and the automaton of Minimal. -/
def MinRel (a : TA) (e : Int) (b : TA) : Prop :=
  (a.valid = false ∧ e = 1 ∧ b = zTA) ∨ (a.valid = true ∧ a.Large ∧ e = 4 ∧ b = zTA) ∨
  (a.valid = true ∧ ¬ a.Large ∧ e = 0 ∧ ∃ ac lf t, MOK a.letters.toNat ac lf t ∧ ac.length ≤ 64 ∧ Canon a.letters.toNat ac.length (mleaf lf) (mbr t) (macc ac) a.lang ∧ b = plainA a.letters.toNat ac lf t)
theorem MinRel.unique {a b b' : TA} {e e' : Int} (h : MinRel a e b) (h' : MinRel a e' b') : e = e' ∧ b = b' := by
  rcases h with ⟨h1, rfl, rfl⟩ | ⟨h1, h2, rfl, rfl⟩ | ⟨h1, h2, rfl, ac, lf, t, h3, h4, h5, rfl⟩ <;>
  rcases h' with ⟨g1, rfl, rfl⟩ | ⟨g1, g2, rfl, rfl⟩ | ⟨g1, g2, rfl, ac', lf', t', g3, g4, g5, rfl⟩ <;>
  first
  | exact ⟨rfl, rfl⟩
  | exact absurd (h1.symm.trans g1) (by decide)
  | exact (h2 g2).elim
  | exact (g2 h2).elim
  | exact ⟨rfl, (plain_same h3 g3 h5 g5 (fun _ _ => rfl)).symm⟩
theorem zero_ta (w : World) : IsTA w w.heap.size (.agg #[.int .i64 0, .int .i64 0, .slice none 0 0, .slice none 0 0, .slice none 0 0]) zTA := ⟨none, 0, none, 0, none, 0, rfl, Sl.nil rfl, Sl.nil rfl, Sl.nil rfl⟩
/-- A value that reads as b, whose leaves are the call's own. -/
def TAown (w : World) (base : Nat) (v : Value) (b : TA) : Prop :=
  ∃ A1 c1 A2 c2 A3 c3 xs, v = .agg #[.int .i64 b.letters, .int .i64 b.states, .slice A1 b.accept.length c1, .slice A2 b.leaves.length c2, .slice A3 b.branches.length c3] ∧
    Sl w w.heap.size 1 encI A1 b.accept ∧ Sl w w.heap.size 2 encL A2 b.leaves ∧ Sl w w.heap.size 4 encBr A3 b.branches ∧ w.ownsRow base 36 2 (.slice A2 b.leaves.length c2) b.leaves.length xs ∧ b.leaves.length ≤ 8
theorem TAown.ta {w : World} {base : Nat} {v : Value} {b : TA} (h : TAown w base v b) : IsTA w w.heap.size v b := by
  obtain ⟨A1, c1, A2, c2, A3, c3, xs, rfl, h1, h2, h3, -, -⟩ := h
  exact ⟨A1, c1, A2, c2, A3, c3, rfl, h1, h2, h3⟩
theorem MinimalRes.rel {w : World} {base : Nat} {a : TA} {v : Value} (h : MinimalRes w base a v) : ∃ e b vm, v = .tuple #[vm, .int .i64 e] ∧ MinRel a e b ∧ TAown w base vm b := by
  have hz : TAown w base zeroTA zTA := ⟨none, 0, none, 0, none, 0, [], rfl, Sl.nil rfl, Sl.nil rfl, Sl.nil rfl, own_nil, by simp [zTA]⟩
  rcases h with ⟨h1, rfl⟩ | ⟨h1, h2, rfl⟩ | ⟨h1, h2, ac, lf, t, va, rfl, h3, h4, h5, h6⟩
  · exact ⟨_, _, _, rfl, .inl ⟨h1, rfl, rfl⟩, hz⟩
  · exact ⟨_, _, _, rfl, .inr (.inl ⟨h1, h2, rfl, rfl⟩), hz⟩
  · refine ⟨_, _, _, rfl, .inr (.inr ⟨h1, h2, rfl, ac, lf, t, h3, h4, h5, rfl⟩), ?_⟩
    obtain ⟨A1, c1, A2, c2, A3, c3, hv, s1, s2, s3⟩ := own_ta h6
    obtain ⟨v1, v2, v3, hv', -, o2, -⟩ := h6
    have hL8 : a.letters.toNat ≤ 8 := by
      have := TA.valid_parts h1
      omega
    rw [hv] at hv'
    injection hv' with hv'
    simp only [Array.mk.injEq, List.cons.injEq, and_true] at hv'
    obtain ⟨-, -, -, e2, -⟩ := hv'
    refine ⟨A1, c1, A2, c2, A3, c3, _, hv, s1, s2, s3, by rw [← e2] at o2; exact o2, ?_⟩
    show (plLv lf).length ≤ 8
    simp only [plLv, List.length_map, List.length_range, h3.lfl]
    exact hL8
end Go.Proofs.Ytnimlcbgeiajiaa

namespace Go.Proofs.Ytnimlcbgeiajiaa
open Go.RowKit

def inC (n lo hi : Int) : Bool := decide (lo ≤ n) && decide (n ≤ hi)

theorem inR_inC (n lo hi : Int) : inR n lo hi = inC n lo (hi - 1) := by
  unfold inR inC; congr 1; exact decide_eq_decide.2 (by omega)

set_option maxHeartbeats 400000 in
theorem within_any (n lo hi : Int) (w : World) : Calls Try.prog 45 #[.int .i64 n, .int .i64 lo, .int .i64 hi] w fun e w' => e = .returned (.bool (inC n lo hi)) ∧ w = w' := by
  by_cases h : lo ≤ n
  all_goals
    go_enter Try.func45, Try.ntmps45
    go_wp2
    go_ret
    exact ⟨by simp [inC]; omega, rfl⟩

set_option maxHeartbeats 4000000 in
set_option maxRecDepth 100000 in
theorem refValidate_head (v : Value) (a : TA) (w : World) (h : IsTA w w.heap.size v a) (hL : 1 ≤ a.letters ∧ a.letters ≤ 8 ∧ 0 ≤ a.states ∧ a.states ≤ 64) :
    Calls Try.prog 19 #[v] w fun e w' =>
      e = .returned (.int .i64 (errno a.valid)) ∧ Below w.heap.size w w' := by
  obtain ⟨A1, c1, A2, c2, A3, c3, rfl, h1, h2, h3⟩ := h
  have HH : Hid (a.head = true) := by show a.head = true; simp [TA.head]; omega
  obtain ⟨L, S, acc, lv, br⟩ := a
  dsimp only at *
  have hn1 := h1.1
  have hn2 := h2.1
  have hn3 := h3.1
  have hcL : inC L 1 8 = true := by simp [inC]; omega
  have hcS : inC S 0 64 = true := by simp [inC]; omega
  have HcL := hide hcL
  have HcS := hide hcS
  clear hcL hcS
  go_enter Try.func19, Try.ntmps19
  go_wp2_with (go_at_call 45; refine (within_any _ _ _ _).mono ?_; rintro e w' ⟨rfl, rfl⟩; (first | rw [HcL.out] | rw [HcS.out]))
  obtain ⟨w1, hw1, hb1, hg1, hB1⟩ := box_facts w #[.int .i64 L, .int .i64 S, .slice A1 acc.length c1, .slice A2 lv.length c2, .slice A3 br.length c3] 26
  rw [hw1]
  clear hw1
  go_loopw [3] (fun i wr => ∃ k : Nat, k ≤ acc.length ∧ i = .int .i64 k ∧ (acc.take k).all (inR · 0 S) ∧ Below w1.heap.size w1 wr) (fun i _ => acc.length - (intOf i).toNat)
  case atStart => exact ⟨0, Nat.zero_le _, rfl, by simp, Below.refl _ _⟩
  case round =>
    obtain ⟨k, hk, rfl, hall, hbr⟩ := hrel
    obtain ⟨hg2, hB2⟩ := box_later hbr hg1 hB1
    by_cases hlt : k < acc.length
    · obtain ⟨b, off, x, rfl, hb, hx, hc⟩ := h1.at hlt
      have hc0 := (hbr.cell (by show b < _; omega)).trans ((hb1.cell (by exact hb)).trans (hc 0 (by omega)))
      simp only [Nat.mul_one, Nat.add_zero, encI] at hc0
      clear hc
      have HX := hide hx
      clear hx
      go_wp2_with fail
      refine Reg.region_ints' [0, 1, 0, 7, 15, 0, 32, 96, 255, 511] (by kernel_rfl) (by repeat (first | exact Reg.NoQ.body (fun _ _ h => Ending.noConfusion h.1) (fun _ h => Ending.noConfusion h.1) | refine Reg.NoQ.then ?_ | refine Reg.NoQ.inBlock ?_)) ?_
      intro Qf hQf
      go_wp2_with (go_at_call 45; refine (within_any _ _ _ _).mono ?_; rintro e w' ⟨rfl, rfl⟩)
      refine ⟨rfl, ?_⟩
      go_wp2
      · go_ret
        exact ⟨by rw [TA.valid]; dsimp only; rw [all_false HX.out (by rw [inR_inC]; simp_all)]; simp [errno], (hb1.trans (hbr.mono (by omega))).drew⟩
      · go_roundw
        case rel => exact ⟨k + 1, by omega, by go_num, all_take_succ HX.out hall (by rw [inR_inC]; simp_all), hbr.drew⟩
        case measure => simp [intOf]; omega
    · have HA := hide (all_done (by omega) hall)
      clear hall
      go_wp2_with fail
      obtain ⟨wa, rfl⟩ : ∃ wa : World, wa = wr := ⟨_, rfl⟩
      go_loopw [4] (fun i wr2 => ∃ k : Nat, k ≤ lv.length ∧ i = .int .i64 k ∧ (lv.take k).all (okLeaf L S) ∧ Below wa.heap.size wa wr2) (fun i _ => lv.length - (intOf i).toNat)
      case atStart => exact ⟨0, Nat.zero_le _, rfl, by simp, Below.refl _ _⟩
      case round =>
        obtain ⟨k, hk, rfl, hall, hbr2⟩ := hrel
        obtain ⟨hg3, hB3⟩ := box_later hbr2 hg2 hB2
        by_cases hlt : k < lv.length
        · obtain ⟨b, off, x, rfl, hb, hx, hc⟩ := h2.at hlt
          have hcc := fun j hj => (hbr2.cell (by show b < _; omega)).trans ((hbr.cell (by show b < _; omega)).trans ((hb1.cell (by exact hb)).trans (hc j hj)))
          have hc0 := hcc 0 (by omega)
          have hc1 := hcc 1 (by omega)
          simp only [Nat.add_zero, encL] at hc0 hc1
          clear hc hcc
          have HX := hide hx
          clear hx
          go_wp2_with fail
          refine Reg.region_ints' [0, 1, 0, 7, 15, 31, 0, 64, 192, 511, 1023, 2047, 4095, 8191, 4095, 32767, 65535, 131071, 4095, 266239, 790527, 2097151, 4194303, 8388607] (by kernel_rfl) (by repeat (first | exact Reg.NoQ.body (fun _ _ h => Ending.noConfusion h.1) (fun _ h => Ending.noConfusion h.1) | refine Reg.NoQ.then ?_ | refine Reg.NoQ.inBlock ?_)) ?_
          intro Qf hQf
          go_wp2_with (go_at_call 45; refine (within_any _ _ _ _).mono ?_; rintro e w' ⟨rfl, rfl⟩)
          all_goals refine ⟨rfl, ?_⟩
          all_goals go_wp2
          all_goals try rw [Bool.not_eq_true] at *
          · go_ret
            exact ⟨by rw [TA.valid]; dsimp only; rw [all_false HX.out (by rw [okLeaf, inR_inC, inR_inC]; simp_all)]; simp [errno], ((hb1.trans (hbr.mono (by omega))).trans (hbr2.mono (by omega))).drew⟩
          · go_roundw
            case rel => exact ⟨k + 1, by omega, by go_num, all_take_succ HX.out hall (by rw [okLeaf, inR_inC, inR_inC]; simp_all), hbr2.drew⟩
            case measure => simp [intOf]; omega
          · go_ret
            exact ⟨by rw [TA.valid]; dsimp only; rw [all_false HX.out (by rw [okLeaf, inR_inC, inR_inC]; simp_all)]; simp [errno], ((hb1.trans (hbr.mono (by omega))).trans (hbr2.mono (by omega))).drew⟩
        · have HA2 := hide (all_done (by omega) hall)
          clear hall
          go_wp2_with fail
          obtain ⟨wb, rfl⟩ : ∃ wb : World, wb = wr := ⟨_, rfl⟩
          go_loopw [5] (fun i wr2 => ∃ k : Nat, k ≤ br.length ∧ i = .int .i64 k ∧ (br.take k).all (okBranch L S) ∧ Below wb.heap.size wb wr2) (fun i _ => br.length - (intOf i).toNat)
          case atStart => exact ⟨0, Nat.zero_le _, rfl, by simp, Below.refl _ _⟩
          case round =>
            obtain ⟨k, hk, rfl, hall, hbr3⟩ := hrel
            obtain ⟨hg4, hB4⟩ := box_later hbr3 hg3 hB3
            by_cases hlt : k < br.length
            · obtain ⟨b, off, x, rfl, hb, hx, hc⟩ := h3.at hlt
              have hcc := fun j hj => (hbr3.cell (by show b < _; omega)).trans ((hbr2.cell (by show b < _; omega)).trans ((hbr.cell (by show b < _; omega)).trans ((hb1.cell (by exact hb)).trans (hc j hj))))
              have hc0 := hcc 0 (by omega)
              have hc1 := hcc 1 (by omega)
              have hc2 := hcc 2 (by omega)
              have hc3 := hcc 3 (by omega)
              simp only [Nat.add_zero, encBr] at hc0 hc1 hc2 hc3
              clear hc hcc
              have HX := hide hx
              clear hx
              go_wp2_with (go_at_call 45; refine (within_any _ _ _ _).mono ?_; rintro e w' ⟨rfl, rfl⟩)
              all_goals try rw [Bool.not_eq_true] at *
              · go_ret
                exact ⟨by rw [TA.valid]; dsimp only; rw [all_false HX.out (by rw [okBranch, inR_inC, inR_inC, inR_inC, inR_inC]; simp_all)]; simp [errno], (((hb1.trans (hbr.mono (by omega))).trans (hbr2.mono (by omega))).trans (hbr3.mono (by omega))).alloc (by omega) _⟩
              · go_roundw
                case rel => exact ⟨k + 1, by omega, by go_num, all_take_succ HX.out hall (by rw [okBranch, inR_inC, inR_inC, inR_inC, inR_inC]; simp_all), hbr3.alloc hbr3.size _⟩
                case measure => simp [intOf]; omega
              all_goals
                go_ret
                exact ⟨by rw [TA.valid]; dsimp only; rw [all_false HX.out (by rw [okBranch, inR_inC, inR_inC, inR_inC, inR_inC]; simp_all)]; simp [errno], (((hb1.trans (hbr.mono (by omega))).trans (hbr2.mono (by omega))).trans (hbr3.mono (by omega))).alloc (by omega) _⟩
            · have HA3 := hide (all_done (by omega) hall)
              clear hall
              go_wp2_with fail
              go_ret
              exact ⟨by rw [TA.valid, HH.out]; dsimp only; rw [HA.out, HA2.out, HA3.out]; rfl, ((hb1.trans (hbr.mono (by omega))).trans (hbr2.mono (by omega))).trans (hbr3.mono (by omega))⟩

set_option maxHeartbeats 1000000 in
set_option maxRecDepth 100000 in
theorem refValidate_any (v : Value) (a : TA) (w : World) (h : IsTA w w.heap.size v a) :
    Calls Try.prog 19 #[v] w fun e w' => e = .returned (.int .i64 (errno a.valid)) ∧ Below w.heap.size w w' := by
  by_cases hh : a.head = true
  · refine refValidate_head v a w h ?_
    simp [TA.head] at hh
    omega
  · obtain ⟨A1, c1, A2, c2, A3, c3, rfl, h1, h2, h3⟩ := h
    have hE : errno a.valid = 1 := by simp [TA.valid, hh, errno]
    rw [hE]
    have hcase : inC a.letters 1 8 = false ∨ (inC a.letters 1 8 = true ∧ inC a.states 0 64 = false) := by
      by_cases h1 : inC a.letters 1 8 = true
      · refine .inr ⟨h1, ?_⟩
        cases h2 : inC a.states 0 64
        · rfl
        · simp [inC] at h1 h2
          simp [TA.head] at hh
          omega
      · exact .inl (by simpa using h1)
    clear hh hE
    generalize a.letters = L at *
    generalize a.states = S at *
    rcases hcase with hc | ⟨hc, hc'⟩
    · have HC := hide hc
      clear hc
      go_enter Try.func19, Try.ntmps19
      go_wp2_with (go_at_call 45; refine (within_any _ _ _ _).mono ?_; rintro e w' ⟨rfl, rfl⟩; rw [HC.out])
      go_ret
      exact ⟨rfl, (Below.refl _ _).alloc (Nat.le_refl _) _⟩
    · have HC := hide hc
      have HC' := hide hc'
      clear hc hc'
      go_enter Try.func19, Try.ntmps19
      go_wp2_with (go_at_call 45; refine (within_any _ _ _ _).mono ?_; rintro e w' ⟨rfl, rfl⟩; (first | rw [HC.out] | rw [HC'.out]))
      go_ret
      exact ⟨rfl, (Below.refl _ _).alloc (Nat.le_refl _) _⟩
end Go.Proofs.Ytnimlcbgeiajiaa

namespace Go.Proofs.Ytnimlcbgeiajiaa
open Go.RowKit

def shGo : Int → List Int → Bool
  | o, [] => o == 0
  | o, c :: sh => o != 0 && (c == 0 || c == 2) && shGo (o + (c - 1)) sh
theorem vt_sh {L : Int} : ∀ (sh lb : List Int) (o : Int), lb.length = sh.length → vtGo L o sh lb = (shGo o sh && lb.all (inC · 0 (L - 1)))
  | [], [], o, _ => by simp [vtGo, shGo]
  | [], _ :: _, _, h => by simp at h
  | _ :: _, [], _, h => by simp at h
  | c :: sh, l :: lb, o, h => by
    have ih := vt_sh (L := L) sh lb (o + c - 1) (by simpa using h)
    have e : decide (l < L) = decide (l ≤ L - 1) := decide_eq_decide.2 (by omega)
    simp only [vtGo, shGo, List.all_cons, ih, show o + (c - 1) = o + c - 1 from by omega, e, inC]
    cases (o != 0) <;> cases (c == 0 || c == 2) <;> cases decide (0 ≤ l) <;> cases decide (l ≤ L - 1) <;> cases (shGo (o + c - 1) sh) <;> rfl
theorem shGo_step {o c : Int} {sh : List Int} {i : Nat} (hc : sh[i]? = some c) : shGo o (sh.drop i) = (o != 0 && (c == 0 || c == 2) && shGo (o + (c - 1)) (sh.drop (i + 1))) := by
  have h1 : sh.drop i = c :: sh.drop (i + 1) := by
    have := lt_of_get hc
    rw [List.drop_eq_getElem_cons this]
    rw [List.getElem?_eq_getElem this] at hc
    rw [Option.some.inj hc]
  rw [h1]
  rfl

set_option maxHeartbeats 4000000 in
set_option maxRecDepth 100000 in
theorem isShape_any {w : World} {B1 c1 : Nat} {A1 : Option Addr} {sh : List Int} (h1 : Sl w B1 1 encI A1 sh) (hs2 : sh.length ≤ 4095) :
    Calls Try.prog 80 #[.slice A1 sh.length c1] w fun e w' => e = .returned (.bool (shGo 1 sh)) ∧ w = w' := by
  go_enter Try.func80, Try.ntmps80
  go_wp2
  go_loop [3, 4] (fun oo ii => ∃ (i : Nat) (o : Int), ii = .int .i64 (i : Int) ∧ i ≤ sh.length ∧ oo = .int .i64 o ∧ 0 ≤ o ∧ o ≤ i + 1 ∧ Hid (shGo 1 sh = shGo o (sh.drop i))) (fun _ ii => sh.length - (intOf ii).toNat)
  case atStart => exact ⟨0, 1, rfl, Nat.zero_le _, rfl, by omega, by omega, rfl⟩
  case round =>
    obtain ⟨i, o, rfl, hi, rfl, ho0, ho1, hv⟩ := hrel
    by_cases hlt : i < sh.length
    · obtain ⟨b1, o1, c, rfl, hb1, hc, hcc⟩ := h1.at hlt
      have hc0 := hcc 0 (by omega)
      simp only [Nat.mul_one, Nat.add_zero, encI] at hc0
      have hst := hide (shGo_step (o := o) hc)
      clear hc hcc
      by_cases h0 : o = 0
      · subst h0
        go_wp2_with fail
        go_ret
        exact ⟨by rw [hv.out, hst.out]; rfl, rfl⟩
      · have h0' : (o == 0) = false := by simpa using h0
        by_cases hc2 : c = 0 ∨ c = 2
        · have h0n : (o != 0) = true := by simpa using h0
          rcases hc2 with rfl | rfl
          · have hfin : Hid (shGo 1 sh = shGo (o + -1) (sh.drop (i + 1))) := by
              show _ = _
              rw [hv.out, hst.out, h0n]
              rfl
            go_wp2_with fail
            exact ⟨⟨i + 1, o + -1, by simp, by omega, rfl, by omega, by omega, hfin.out⟩, by simp [intOf]; omega⟩
          · have hfin : Hid (shGo 1 sh = shGo (o + 1) (sh.drop (i + 1))) := by
              show _ = _
              rw [hv.out, hst.out, h0n]
              rfl
            go_wp2_with fail
            exact ⟨⟨i + 1, o + 1, by simp, by omega, rfl, by omega, by omega, hfin.out⟩, by simp [intOf]; omega⟩
        · have hn0 : (c != 0) = true := by simp; omega
          have hn2 : (c != 2) = true := by simp; omega
          have hfin : Hid (shGo 1 sh = false) := by
            show _ = _
            rw [hv.out, hst.out]
            have e1 : (c == 0) = false := by simp; omega
            have e2 : (c == 2) = false := by simp; omega
            simp [e1, e2]
          go_wp2_with fail
          go_ret
          exact ⟨by rw [hfin.out]; rfl, rfl⟩
    · have hfin : Hid (shGo 1 sh = (o == 0)) := by
        show _ = _
        rw [hv.out, List.drop_eq_nil_of_le (by omega)]
        rfl
      go_wp2_with fail
      go_ret
      exact ⟨by rw [hfin.out]; rfl, rfl⟩

set_option maxHeartbeats 4000000 in
set_option maxRecDepth 100000 in
theorem refValidTree_any {w : World} {B1 B2 c1 c2 : Nat} {A1 A2 : Option Addr} {L : Int} {sh lb : List Int} (h1 : Sl w B1 1 encI A1 sh) (h2 : Sl w B2 1 encI A2 lb) (hL : 1 ≤ L ∧ L ≤ 8) :
    Calls Try.prog 55 #[.int .i64 L, .slice A1 sh.length c1, .slice A2 lb.length c2] w fun e w' => e = .returned (.bool (validT L sh lb)) ∧ w = w' := by
  have hn1 := h1.1
  have hn2 := h2.1
  obtain ⟨hL1, hL8⟩ := hL
  cases hw : inC sh.length 1 4095
  · have hv : Hid (validT L sh lb = false) := by
      show _ = _
      simp [inC] at hw
      simp [validT]
      omega
    have hW := hide hw
    clear hw
    go_enter Try.func55, Try.ntmps55
    go_wp2_with (go_at_call 45; refine (within_any _ _ _ _).mono ?_; rintro e w' ⟨rfl, rfl⟩; rw [hW.out])
    go_ret
    exact ⟨by rw [hv.out]; rfl, rfl⟩
  · have hs2 : sh.length ≤ 4095 ∧ 1 ≤ sh.length := by simp [inC] at hw; omega
    have hW := hide hw
    clear hw
    by_cases hl : lb.length = sh.length
    · have hv0 : Hid (validT L sh lb = (shGo 1 sh && lb.all (inC · 0 (L - 1)))) := by
        show _ = _
        rw [← vt_sh sh lb 1 hl]
        simp [validT, hl, hs2.1, hs2.2]
      have hLl := hide hl
      rw [hl]
      cases hsh : shGo 1 sh
      · have hS := hide hsh
        clear hsh hl
        go_enter Try.func55, Try.ntmps55
        go_wp2_with (first | (go_at_call 45; refine (within_any _ _ _ _).mono ?_; rintro e w' ⟨rfl, rfl⟩; rw [hW.out]) | (go_at_call 80; refine (isShape_any h1 hs2.1).mono ?_; rintro e w' ⟨rfl, rfl⟩; rw [hS.out]))
        go_ret
        exact ⟨by rw [hv0.out, hS.out]; rfl, rfl⟩
      · have hS := hide hsh
        clear hsh hl
        go_enter Try.func55, Try.ntmps55
        go_wp2_with (first | (go_at_call 45; refine (within_any _ _ _ _).mono ?_; rintro e w' ⟨rfl, rfl⟩; rw [hW.out]) | (go_at_call 80; refine (isShape_any h1 hs2.1).mono ?_; rintro e w' ⟨rfl, rfl⟩; rw [hS.out]))
        go_loop [7] (fun ii => ∃ (i : Nat), ii = .int .i64 (i : Int) ∧ i ≤ sh.length ∧ Hid ((lb.take i).all (inC · 0 (L - 1)) = true)) (fun ii => sh.length - (intOf ii).toNat)
        case atStart => exact ⟨0, rfl, Nat.zero_le _, rfl⟩
        case round =>
          obtain ⟨i, rfl, hi, hE⟩ := hrel
          by_cases hlt : i < sh.length
          · obtain ⟨b, off, q, rfl, hbb, hx, hc⟩ := h2.at (k := i) (by rw [hLl.out]; exact hlt)
            have hc0 := hc 0 (by omega)
            simp only [Nat.mul_one, Nat.add_zero, encI] at hc0
            have hX := hide hx
            clear hx hc
            cases hq : inC q 0 (L - 1)
            · have hQ := hide hq
              clear hq
              go_wp2_with (go_at_call 45; refine (within_any _ _ _ _).mono ?_; rintro e w' ⟨rfl, rfl⟩; rw [hQ.out])
              go_ret
              exact ⟨by rw [hv0.out, hS.out, all_false hX.out hQ.out]; rfl, rfl⟩
            · have hQ := hide hq
              clear hq
              go_wp2_with (go_at_call 45; refine (within_any _ _ _ _).mono ?_; rintro e w' ⟨rfl, rfl⟩; rw [hQ.out])
              exact ⟨⟨i + 1, by go_num, by omega, all_take_succ hX.out hE.out hQ.out⟩, by simp [intOf]; omega⟩
          · have hA := hide (all_done (by rw [hLl.out]; omega) hE.out)
            go_wp2_with fail
            go_ret
            exact ⟨by rw [hv0.out, hS.out, hA.out]; rfl, rfl⟩
    · have hv : Hid (validT L sh lb = false) := by show _ = _; simp [validT, hl]
      have hne : ((lb.length : Int) != (sh.length : Int)) = true := by simp; omega
      clear hl
      go_enter Try.func55, Try.ntmps55
      go_wp2_with (go_at_call 45; refine (within_any _ _ _ _).mono ?_; rintro e w' ⟨rfl, rfl⟩; rw [hW.out])
      go_ret
      exact ⟨by rw [hv.out]; rfl, rfl⟩
end Go.Proofs.Ytnimlcbgeiajiaa

namespace Go.Proofs.Ytnimlcbgeiajiaa
open Go.RowKit

/-- Marks and a word say the same of all states. -/
def SameM (S : Nat) (m : List Bool) (M : Nat) : Prop := m.length = S ∧ ∀ q, q < S → m[q]?.getD false = M.testBit q
theorem SameM.zero (S : Nat) : SameM S (List.replicate S false) 0 := ⟨by simp, fun q hq => by simp [hq]⟩
theorem SameM.set {S : Nat} {m : List Bool} {M : Nat} (h : SameM S m M) {q : Int} (h0 : 0 ≤ q) (hq : q < S) : SameM S (setM m q) (setB M q) := by
  obtain ⟨q, rfl⟩ := Int.eq_ofNat_of_zero_le h0
  refine ⟨by rw [setM_len]; exact h.1, fun j hj => ?_⟩
  simp only [setM, setB, mOr, mPow, Int.toNat_natCast]
  rw [Nat.testBit_or, Nat.testBit_two_pow, List.getElem?_set]
  by_cases e : q = j
  · subst e
    simp [h.1, hj]
  · simp [e, h.2 j hj]
theorem SameM.bit {S : Nat} {m : List Bool} {M : Nat} (h : SameM S m M) {q : Int} (h0 : 0 ≤ q) (hq : q < S) : bitM m q = mBit M q := h.2 q.toNat (by omega)
theorem sameM_leaf {S : Nat} (x : Nat) : ∀ (l : List Leaf) (m : List Bool) (M : Nat), SameM S m M → (∀ e ∈ l, 0 ≤ e.to ∧ e.to < S) → SameM S (l.foldl (leafF x) m) (l.foldl (leafMF x) M)
  | [], _, _, h, _ => h
  | e :: l, m, M, h, hl => by
    refine sameM_leaf x l _ _ ?_ (fun e' he' => hl e' (List.mem_cons_of_mem _ he'))
    have := hl e List.mem_cons_self
    by_cases hx : e.letter = (x : Int)
    · simp only [leafF, leafMF, hx, if_true]
      exact h.set this.1 this.2
    · simp only [leafF, leafMF, hx, if_false]
      exact h
theorem sameM_br {S : Nat} (x : Nat) {s t : List Bool} {s' t' : Nat} (hs : SameM S s s') (ht : SameM S t t') : ∀ (l : List Branch) (m : List Bool) (M : Nat), SameM S m M →
    (∀ e ∈ l, (0 ≤ e.first ∧ e.first < S) ∧ (0 ≤ e.second ∧ e.second < S) ∧ (0 ≤ e.to ∧ e.to < S)) → SameM S (l.foldl (brF x s t) m) (l.foldl (brMF x s' t') M)
  | [], _, _, h, _ => h
  | e :: l, m, M, h, hl => by
    refine sameM_br x hs ht l _ _ ?_ (fun e' he' => hl e' (List.mem_cons_of_mem _ he'))
    obtain ⟨⟨h1, h2⟩, ⟨h3, h4⟩, h5, h6⟩ := hl e List.mem_cons_self
    simp only [brF, brMF, hs.bit h1 h2, ht.bit h3 h4]
    split
    · exact h.set h5 h6
    · exact h

def TA.marks (a : TA) (t : Tr) : List Bool := runT (leafR a.states.toNat a.leaves) (brR a.states.toNat a.branches) t
theorem TA.same_marks {a : TA} (hv : a.fit5 = true) (t : Tr) : SameM a.states.toNat (a.marks t) (a.mask t) := by
  simp only [TA.fit5, TA.head5, Bool.and_eq_true, decide_eq_true_eq] at hv
  obtain ⟨⟨⟨⟨⟨⟨-, -⟩, h3⟩, -⟩, -⟩, h6⟩, h7⟩ := hv
  have hl : ∀ e ∈ a.leaves, 0 ≤ e.to ∧ e.to < (a.states.toNat : Int) := fun e he => by
    have := List.all_eq_true.1 h6 e he
    simp only [okLeaf, inR, Bool.and_eq_true, decide_eq_true_eq] at this
    omega
  have hb : ∀ e ∈ a.branches, (0 ≤ e.first ∧ e.first < (a.states.toNat : Int)) ∧ (0 ≤ e.second ∧ e.second < (a.states.toNat : Int)) ∧ (0 ≤ e.to ∧ e.to < (a.states.toNat : Int)) := fun e he => by
    have := List.all_eq_true.1 h7 e he
    simp only [okBranch, inR, Bool.and_eq_true, decide_eq_true_eq] at this
    omega
  induction t with
  | leaf x => exact sameM_leaf x a.leaves _ _ (SameM.zero _) hl
  | node x s t ihs iht =>
    have := sameM_br x ihs iht a.branches _ _ (SameM.zero _) hb
    have e : a.mask (.node x s t) = a.branches.foldl (brMF x (a.mask s) (a.mask t)) 0 := by
      show brM _ _ _ = _
      unfold brM
      rw [brM_filter]
      rfl
    rw [e]
    exact this
theorem any_eq {l : List Int} {f g : Int → Bool} (h : ∀ q ∈ l, f q = g q) : l.any f = l.any g := by
  induction l with
  | nil => rfl
  | cons q l ih => rw [List.any_cons, List.any_cons, h q List.mem_cons_self, ih fun q' hq' => h q' (List.mem_cons_of_mem _ hq')]
theorem TA.lang_marks {a : TA} (hv : a.fit5 = true) (t : Tr) : meetsR a.accept (a.marks t) = a.lang t := by
  have h := TA.same_marks hv t
  simp only [TA.fit5, TA.head5, Bool.and_eq_true, decide_eq_true_eq] at hv
  obtain ⟨⟨⟨⟨⟨⟨-, -⟩, h3⟩, -⟩, h5⟩, -⟩, -⟩ := hv
  have h6 : ∀ q ∈ a.accept, 0 ≤ q := fun q hq => by
    have := List.all_eq_true.1 h5 q hq
    simp only [inR, Bool.and_eq_true, decide_eq_true_eq] at this
    exact this.1
  have : a.lang t = a.accept.any (mBit (a.mask t)) := accS_any a _ fun q hq => h6 q hq
  rw [this]
  refine any_eq fun q hq => ?_
  have := List.all_eq_true.1 h5 q hq
  simp only [inR, Bool.and_eq_true, decide_eq_true_eq] at this
  exact h.bit this.1 (by omega)

/-- The marks of the subtrees that wait, in memory. -/
structure KeptM (w : World) (base : Nat) (a : TA) (kk : Value) (us : List Value) (s : List Tr) : Prop where
  own : w.ownsRow base 79 1 kk s.length us
  row : ∀ (i : Nat) (u : Value) (t : Tr), us[i]? = some u → s.reverse[i]? = some t → Marks w w.heap.size a.states.toNat u (a.marks t)
theorem KeptM.len {w : World} {base : Nat} {a : TA} {kk : Value} {us : List Value} {s : List Tr} (h : KeptM w base a kk us s) : us.length = s.length := by simpa using h.own.1
theorem KeptM.keep {w w' : World} {base : Nat} {a : TA} {kk : Value} {us : List Value} {s : List Tr} (h : KeptM w base a kk us s) (hk : Kept w w' (fun _ => False)) : KeptM w' base a kk us s :=
  ⟨hk.ownsRow h.own (fun _ _ => id), fun i u t hu ht => ((h.row i u t hu ht).keep0 hk).mono hk.size⟩
theorem KeptM.push {w w' : World} {base : Nat} {a : TA} {kk kk' u : Value} {us : List Value} {s : List Tr} {t : Tr} (h : KeptM w base a kk us s) (hu : Marks w w.heap.size a.states.toNat u (a.marks t)) (hk : Kept w w' (fun k => kk.ownBlock = some k)) (hown : w'.ownsRow base 79 1 kk' (s.length + 1) (us ++ [u])) : KeptM w' base a kk' (us ++ [u]) (t :: s) := by
  have hX : ∀ g cs, kk.ownBlock = some g → g < w.heap.size → ¬ Blk w g 4 cs := fun g cs hx _ hb => own_blk_ne h.own hb (by decide) hx
  refine ⟨by simpa using hown, fun i u' t' hu' ht' => ?_⟩
  rw [List.reverse_cons] at ht'
  rcases Nat.lt_trichotomy i s.length with hlt | heq | hgt
  · rw [List.getElem?_append_left (by rw [h.len]; exact hlt)] at hu'
    rw [List.getElem?_append_left (by simpa using hlt)] at ht'
    exact ((h.row i u' t' hu' ht').keep hk hX).mono hk.size
  · rw [List.getElem?_append_right (by rw [h.len]; omega), h.len, heq, Nat.sub_self] at hu'
    rw [List.getElem?_append_right (by simp; omega), List.length_reverse, heq, Nat.sub_self] at ht'
    have e1 := Option.some.inj hu'
    have e2 := Option.some.inj ht'
    subst e1 e2
    exact (hu.keep hk hX).mono hk.size
  · rw [List.getElem?_eq_none (by simp; omega)] at ht'
    cases ht'
theorem KeptM.pop2 {w : World} {base : Nat} {a : TA} {g cap : Nat} {us : List Value} {t1 t2 : Tr} {r : List Tr} (h : KeptM w base a (.slice (some ⟨g, 0, none⟩) (r.length + 1 + 1) cap) us (t1 :: t2 :: r)) : KeptM w base a (.slice (some ⟨g, 0, none⟩) r.length cap) (us.take r.length) r := by
  refine ⟨by simpa using own_shrink (m := r.length) h.own (by omega), fun i u t hu ht => ?_⟩
  have hi : i < r.length := by have := lt_of_get ht; simpa using this
  refine h.row i u t ?_ ?_
  · rw [List.getElem?_take] at hu
    simpa [hi] using hu
  · simp only [List.reverse_cons, List.append_assoc]
    rw [List.getElem?_append_left (by simpa using hi)]
    exact ht
theorem KeptM.top {w : World} {base : Nat} {a : TA} {kk : Value} {us : List Value} {t1 t2 : Tr} {r : List Tr} (h : KeptM w base a kk us (t1 :: t2 :: r)) :
    ∃ u1 u2, us[r.length + 1]? = some u1 ∧ us[r.length]? = some u2 ∧ Marks w w.heap.size a.states.toNat u1 (a.marks t1) ∧ Marks w w.heap.size a.states.toNat u2 (a.marks t2) := by
  have hl := h.len
  obtain ⟨u1, hu1⟩ := get_lt (l := us) (i := r.length + 1) (by simp at hl; omega)
  obtain ⟨u2, hu2⟩ := get_lt (l := us) (i := r.length) (by simp at hl; omega)
  refine ⟨u1, u2, hu1, hu2, h.row _ _ _ hu1 ?_, h.row _ _ _ hu2 ?_⟩
  · simp
  · simp

end Go.Proofs.Ytnimlcbgeiajiaa
