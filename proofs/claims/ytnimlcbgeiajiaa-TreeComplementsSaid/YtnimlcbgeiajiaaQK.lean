/-
  CopyInts: the walk.
  CopyAutomaton: the walk.
  CompareInts, SameInts and SameAutomaton at equal data, and small: the walks.
  CompareInts, SameInts and SameAutomaton at any data: the walks.
-/
import Derived.Test.YtnimlcbgeiajiaaQD
import Derived.Test.YtnimlcbgeiajiaaQE

namespace Go.Proofs.Ytnimlcbgeiajiaa
open Go.RowKit

theorem own_empty (w : World) (e : TypeId) (size : Nat) : (w.alloc (.cells #[] e)).ownsRow w.heap.size e size (.slice (some ⟨w.heap.size, 0, none⟩) 0 0) 0 [] :=
  ⟨by simp, .inr ⟨w.heap.size, 0, #[], rfl, Nat.le_refl _, heap_alloc_new w _, Nat.le_refl _, by unfold maxLen; omega, by simp, by simp⟩⟩

set_option maxHeartbeats 2000000 in
theorem copyInts_any {w : World} {B c : Nat} {A : Option Addr} {xs : List Int} (h : Sl w B 1 encI A xs) (hB : B ≤ w.heap.size) (hn : xs.length ≤ 900000) :
    Calls Try.prog 46 #[.slice A xs.length c] w (Ret fun r w' => Below w.heap.size w w' ∧ w'.ownsRow w.heap.size 3 1 r xs.length (xs.map fun x => .int .i64 x)) := by
  have ho := own_empty w 3 1
  have hb0 := (Below.refl w.heap.size w).alloc (Nat.le_refl _) (.cells #[] 3)
  by_cases h0 : xs.length = 0
  · have hx : xs = [] := List.length_eq_zero_iff.1 h0
    subst hx
    simp only [List.length_nil] at *
    have e1 : ∀ w' : World, Sem.run Try.prog (pure (#[] : Array Value)) w' = .ok #[] w' := fun _ => rfl
    have e2 : ∀ (ad : Addr) (w' : World), Sem.run Try.prog (storeCells ad ([] : List Value)) w' = .ok () w' := fun _ _ => rfl
    cases A
    all_goals
      go_enter Try.func46, Try.ntmps46
      go_wp2_with fail
      go_ret
      exact ⟨hb0, ho⟩
  · obtain ⟨b, off, x0, rfl, hb, hx0, hc⟩ := h.at (k := 0) (by omega)
    go_enter Try.func46, Try.ntmps46
    go_wp2_with (at_builtin; refine wpList_app row22 rfl _ _ rfl w.heap.size (.slice (some ⟨w.heap.size, 0, none⟩) 0 0) 0 [] rfl ho ⟨b, off, none⟩ xs.length c (xs.map fun x => .int .i64 x) rfl (by simp) ?_ (by simp [Value.oneCell']) (by omega) (by omega) (by simp) ?_)
    · intro j u hu
      rw [List.getElem?_map] at hu
      cases hx : xs[j]? with
      | none => rw [hx] at hu; cases hu
      | some x =>
        rw [hx] at hu
        have hu := Option.some.inj hu
        subst hu
        obtain ⟨b', o', e, hb', hall⟩ := h.2 (by intro e; rw [e] at h0; exact h0 rfl)
        have e := Option.some.inj e
        injection e with e1 e2 _
        subst e1 e2
        have := hall j x hx 0 (by omega)
        have hadd : (⟨b, off, none⟩ : Addr).add j = ⟨b, off + j * 1 + 0, none⟩ := by unfold Addr.add; split <;> simp_all
        rw [hadd]
        exact cell_old (by show b < _; omega) this
    · intro g cap w' hown hk hmv hg
      go_wp2_with fail
      go_ret
      exact ⟨hb0.trans (hk.below (by simp) (fun b' hb' e => by simp [Value.ownBlock] at e; omega)), hown⟩

/-- The cells of a slice, one behind the other. -/
theorem news_of {D : Type} {w : World} {B sz b off : Nat} {enc : D → Nat → Value} {ds : List D} {xs : List Value} (hs : Sl w B sz enc (some ⟨b, off, none⟩) ds) (hne : ds ≠ []) (hz : 0 < sz) (hlen : xs.length = ds.length * sz)
    (hx : ∀ (k j : Nat) (d : D), ds[k]? = some d → j < sz → xs[k * sz + j]? = some (enc d j)) : ∀ (j : Nat) (u : Value), xs[j]? = some u → w.cell? ((⟨b, off, none⟩ : Addr).add j) = some u := by
  intro j u hu
  have hj := lt_of_get hu
  obtain ⟨b', o', e, hb', hall⟩ := hs.2 hne
  have e := Option.some.inj e
  injection e with e1 e2 _
  subst e1 e2
  have hk : j / sz < ds.length := Nat.div_lt_of_lt_mul (by rw [Nat.mul_comm, ← hlen]; exact hj)
  obtain ⟨d, hd⟩ := get_lt hk
  have hr := Nat.mod_lt j hz
  have hsum : j / sz * sz + j % sz = j := by rw [Nat.mul_comm]; exact Nat.div_add_mod j sz
  have h1 := hx (j / sz) (j % sz) d hd hr
  rw [hsum, hu] at h1
  have h2 := hall (j / sz) d hd (j % sz) hr
  rw [show off + j / sz * sz + j % sz = off + j from by omega] at h2
  have hadd : (⟨b, off, none⟩ : Addr).add j = ⟨b, off + j, none⟩ := by unfold Addr.add; split <;> simp_all
  rw [hadd, h2, ← Option.some.inj h1]
end Go.Proofs.Ytnimlcbgeiajiaa

namespace Go.Proofs.Ytnimlcbgeiajiaa
open Go.RowKit

-- An append of the elements of a slice onto an empty slice that was just built: a row of its own.
section
variable {P : Program} {ops : Array Oper} {rest : List Oper} {o : Oper} {a : Act} {Q : Exit → Act → World → Prop}
theorem wpList_copy {D : Type} {w : World} {t e sz B n c : Nat} {enc : D → Nat → Value} {ds : List D} {xs : List Value} {A : Option Addr} (R : RowTy P t e sz) (hgd : o.guard = none) (s x : Operand)
    (ho : o.op = .call { callee := .builtin .append, args := #[s, x], argTypes := #[t, t] }) (hs : a.eval s = .slice (some ⟨w.heap.size, 0, none⟩) 0 0) (hx : a.eval x = .slice A n c) (hn : n = ds.length)
    (hsl : Sl w B sz enc A ds) (hB : B ≤ w.heap.size) (hne : ds ≠ []) (hlen : xs.length = ds.length * sz) (hxs : ∀ (k j : Nat) (d : D), ds[k]? = some d → j < sz → xs[k * sz + j]? = some (enc d j)) (h1 : ∀ u ∈ xs, u.oneCell' = true) (hbig : ds.length ≤ 900000)
    (h : ∀ g cap w', w'.ownsRow w.heap.size e sz (.slice (some ⟨g, 0, none⟩) n cap) n xs → Below w.heap.size w w' → g < w'.heap.size → wpList P ops Q rest (a.put o.dst (.slice (some ⟨g, 0, none⟩) n cap)) w') :
    wpList P ops Q (o :: rest) a (w.alloc (.cells #[] e)) := by
  obtain ⟨b, off, rfl, hb, -⟩ := hsl.2 hne
  subst hn
  have hb0 := (Below.refl w.heap.size w).alloc (Nat.le_refl _) (.cells #[] e)
  have hsl' : Sl (w.alloc (.cells #[] e)) B sz enc (some ⟨b, off, none⟩) ds := hsl.keep (fun p hp => World.cell?_alloc_lt w _ p (by omega)) (Nat.le_refl _)
  have hpos : 0 < ds.length := by cases ds; exact absurd rfl hne; simp
  refine wpList_app R hgd s x ho w.heap.size _ 0 [] hs (own_empty w e sz) ⟨b, off, none⟩ ds.length c xs hx hlen (news_of hsl' hne R.pos hlen hxs) h1 hpos (by omega) (by simp) ?_
  intro g cap w' hown hk hmv hg
  have e0 : 0 + ds.length = ds.length := Nat.zero_add _
  rw [e0, List.nil_append] at hown
  rw [e0]
  exact h g cap w' hown (hb0.trans (hk.below (by simp) (fun b' hb' e => by simp [Value.ownBlock] at e; omega))) hg
end
section
variable {ops : Array Oper} {rest : List Oper} {o : Oper} {a : Act} {Q : Exit → Act → World → Prop}
theorem wpList_zero23 {w : World} {c : Nat} {g : Addr} {A : Option Addr} (hgd : o.guard = none) (s x : Operand)
    (ho : o.op = .call { callee := .builtin .append, args := #[s, x], argTypes := #[23, 23] }) (hs : a.eval s = .slice (some g) 0 0) (hx : a.eval x = .slice A 0 c)
    (h : wpList Try.prog ops Q rest (a.put o.dst (.slice (some g) 0 0)) w) : wpList Try.prog ops Q (o :: rest) a w := by
  refine wpList_plain hgd fun K hK => ?_
  have e1 : ∀ w' : World, Sem.run Try.prog (pure (#[] : Array Value)) w' = .ok #[] w' := fun _ => rfl
  have e2 : ∀ (ad : Addr) (w' : World), Sem.run Try.prog (storeCells ad ([] : List Value)) w' = .ok () w' := fun _ _ => rfl
  have hk := hK _ _ h
  obtain ⟨dst, op, type, pos, after, guard⟩ := o
  dsimp only at ho hgd
  subst ho hgd
  unfold Oper.wp execOp
  cases A
  all_goals
    simp only [resolve, invoke, builtin, Sem.run_bind, Sem.run_pure, Result.andThen_ok, List.map_toArray, List.map_cons, List.map_nil, hs, hx]
    go_simp
    exact hk
theorem wpList_zero24 {w : World} {c : Nat} {g : Addr} {A : Option Addr} (hgd : o.guard = none) (s x : Operand)
    (ho : o.op = .call { callee := .builtin .append, args := #[s, x], argTypes := #[24, 24] }) (hs : a.eval s = .slice (some g) 0 0) (hx : a.eval x = .slice A 0 c)
    (h : wpList Try.prog ops Q rest (a.put o.dst (.slice (some g) 0 0)) w) : wpList Try.prog ops Q (o :: rest) a w := by
  refine wpList_plain hgd fun K hK => ?_
  have e1 : ∀ w' : World, Sem.run Try.prog (pure (#[] : Array Value)) w' = .ok #[] w' := fun _ => rfl
  have e2 : ∀ (ad : Addr) (w' : World), Sem.run Try.prog (storeCells ad ([] : List Value)) w' = .ok () w' := fun _ _ => rfl
  have hk := hK _ _ h
  obtain ⟨dst, op, type, pos, after, guard⟩ := o
  dsimp only at ho hgd
  subst ho hgd
  unfold Oper.wp execOp
  cases A
  all_goals
    simp only [resolve, invoke, builtin, Sem.run_bind, Sem.run_pure, Result.andThen_ok, List.map_toArray, List.map_cons, List.map_nil, hs, hx]
    go_simp
    exact hk
theorem wpList_cp23 {D : Type} {w : World} {B n c : Nat} {enc : D → Nat → Value} {ds : List D} {xs : List Value} {A : Option Addr} (hgd : o.guard = none) (s x : Operand)
    (ho : o.op = .call { callee := .builtin .append, args := #[s, x], argTypes := #[23, 23] }) (hs : a.eval s = .slice (some ⟨w.heap.size, 0, none⟩) 0 0) (hx : a.eval x = .slice A n c) (hn : n = ds.length)
    (hsl : Sl w B 2 enc A ds) (hB : B ≤ w.heap.size) (hlen : xs.length = ds.length * 2) (hxs : ∀ (k j : Nat) (d : D), ds[k]? = some d → j < 2 → xs[k * 2 + j]? = some (enc d j)) (h1 : ∀ u ∈ xs, u.oneCell' = true) (hbig : ds.length ≤ 900000)
    (h : ∀ g cap w', w'.ownsRow w.heap.size 36 2 (.slice (some ⟨g, 0, none⟩) n cap) n xs → Below w.heap.size w w' → g < w'.heap.size → wpList Try.prog ops Q rest (a.put o.dst (.slice (some ⟨g, 0, none⟩) n cap)) w') :
    wpList Try.prog ops Q (o :: rest) a (w.alloc (.cells #[] 36)) := by
  by_cases hne : ds = []
  · subst hne hn
    have hx0 : xs = [] := List.length_eq_zero_iff.1 (by simpa using hlen)
    subst hx0
    exact wpList_zero23 hgd s x ho hs hx (h _ _ _ (own_empty w 36 2) ((Below.refl w.heap.size w).alloc (Nat.le_refl _) _) (by simp))
  · exact wpList_copy row23 hgd s x ho hs hx hn hsl hB hne hlen hxs h1 hbig h
theorem wpList_cp24 {D : Type} {w : World} {B n c : Nat} {enc : D → Nat → Value} {ds : List D} {xs : List Value} {A : Option Addr} (hgd : o.guard = none) (s x : Operand)
    (ho : o.op = .call { callee := .builtin .append, args := #[s, x], argTypes := #[24, 24] }) (hs : a.eval s = .slice (some ⟨w.heap.size, 0, none⟩) 0 0) (hx : a.eval x = .slice A n c) (hn : n = ds.length)
    (hsl : Sl w B 4 enc A ds) (hB : B ≤ w.heap.size) (hlen : xs.length = ds.length * 4) (hxs : ∀ (k j : Nat) (d : D), ds[k]? = some d → j < 4 → xs[k * 4 + j]? = some (enc d j)) (h1 : ∀ u ∈ xs, u.oneCell' = true) (hbig : ds.length ≤ 900000)
    (h : ∀ g cap w', w'.ownsRow w.heap.size 59 4 (.slice (some ⟨g, 0, none⟩) n cap) n xs → Below w.heap.size w w' → g < w'.heap.size → wpList Try.prog ops Q rest (a.put o.dst (.slice (some ⟨g, 0, none⟩) n cap)) w') :
    wpList Try.prog ops Q (o :: rest) a (w.alloc (.cells #[] 59)) := by
  by_cases hne : ds = []
  · subst hne hn
    have hx0 : xs = [] := List.length_eq_zero_iff.1 (by simpa using hlen)
    subst hx0
    exact wpList_zero24 hgd s x ho hs hx (h _ _ _ (own_empty w 59 4) ((Below.refl w.heap.size w).alloc (Nat.le_refl _) _) (by simp))
  · exact wpList_copy row24 hgd s x ho hs hx hn hsl hB hne hlen hxs h1 hbig h
end
theorem lv_len (l : List Leaf) : (l.flatMap lvCells).length = l.length * 2 := by
  induction l with
  | nil => rfl
  | cons x l ih => rw [List.flatMap_cons, List.length_append, ih, List.length_cons, Nat.succ_mul]; simp [lvCells]; omega
theorem br_len (l : List Branch) : (l.flatMap brCells).length = l.length * 4 := by
  induction l with
  | nil => rfl
  | cons x l ih => rw [List.flatMap_cons, List.length_append, ih, List.length_cons, Nat.succ_mul]; simp [brCells]; omega
theorem lv_one (l : List Leaf) : ∀ u ∈ l.flatMap lvCells, u.oneCell' = true := by
  intro u hu
  obtain ⟨x, -, hx⟩ := List.mem_flatMap.1 hu
  simp [lvCells] at hx
  rcases hx with rfl | rfl <;> rfl
theorem br_one (l : List Branch) : ∀ u ∈ l.flatMap brCells, u.oneCell' = true := by
  intro u hu
  obtain ⟨x, -, hx⟩ := List.mem_flatMap.1 hu
  simp [brCells] at hx
  rcases hx with rfl | rfl | rfl | rfl <;> rfl

set_option maxHeartbeats 4000000 in
set_option maxRecDepth 100000 in
theorem copyAutomaton_any {v : Value} {a : TA} {w : World} (h : IsTA w w.heap.size v a) (hn1 : a.accept.length ≤ 900000) (hn2 : a.leaves.length ≤ 900000) (hn3 : a.branches.length ≤ 900000) :
    Calls Try.prog 20 #[v] w (Ret fun r w' => Below w.heap.size w w' ∧ IsTA w' w'.heap.size r a) := by
  obtain ⟨A1, c1, A2, c2, A3, c3, rfl, h1, h2, h3⟩ := h
  obtain ⟨w1, hw1, hb1, hB1, hk1⟩ := box_blk w #[.int .i64 a.letters, .int .i64 a.states, .slice A1 a.accept.length c1, .slice A2 a.leaves.length c2, .slice A3 a.branches.length c3] 26
  obtain ⟨w2, hw2, hb2, hB2, hk2⟩ := box_blk w1 #[.int .i64 0, .int .i64 0, .slice none 0 0, .slice none 0 0, .slice none 0 0] 26
  obtain ⟨w3, hw3, hb3, hB3, hk3⟩ := box_blk w2 #[.int .i64 a.letters, .int .i64 a.states, .slice A1 a.accept.length c1, .slice A2 a.leaves.length c2, .slice A3 a.branches.length c3] 26
  have hcb := (hB1.kept hk2 id).cell
  have hcb3 := ((hB1.kept hk2 id).kept hk3 id).cell
  have hsz1 := hb1.size
  have hsz2 := hb2.size
  have hsz3 := hb3.size
  have hb03 := (hb1.trans (hb2.mono hsz1)).trans (hb3.mono (by omega))
  have hs1 := hide ((h1.below hb03).mono (B' := w3.heap.size) (by omega))
  go_enter Try.func20, Try.ntmps20
  go_wp2_with fail
  refine Calls.ret (copyInts_any hs1.out (Nat.le_refl _) hn1) ?_
  rintro v4 w4 ⟨hb4, ho4⟩
  obtain ⟨A4, c4, rfl⟩ := slice_of_own ho4
  have hb04 : Below w.heap.size w w4 := hb03.trans (hb4.mono (by omega))
  have hB14 := ((hB1.kept hk2 id).kept hk3 id).kept (Kept.of_below hb4 (fun _ => False)) id
  have hB24 := (hB2.kept hk3 id).kept (Kept.of_below hb4 (fun _ => False)) id
  have hB34 := hB3.kept (Kept.of_below hb4 (fun _ => False)) id
  have hcb4 := hB14.cell
  have hc34 := hB34.cell
  have hf34 := hB34.frozen
  have hl34 := hB34.lt
  have hsz4 := hb4.size
  have hlt1 := hB1.lt
  obtain ⟨w5, hw5⟩ : ∃ w5, w4.setCell ⟨w2.heap.size, 2, none⟩ (.slice A4 a.accept.length c4) = w5 := ⟨_, rfl⟩
  have hk5 : Kept w4 w5 (fun k => k = w2.heap.size) := hw5 ▸ (Kept.refl w4 (fun k => k = w2.heap.size)).setCell (p := ⟨w2.heap.size, 2, none⟩) (fun _ => rfl) _
  have hB35 : Blk w5 w2.heap.size 26 #[.int .i64 a.letters, .int .i64 a.states, .slice A4 a.accept.length c4, .slice A2 a.leaves.length c2, .slice A3 a.branches.length c3] := by
    have := hB34.set_ 2 (.slice A4 a.accept.length c4)
    rw [hw5] at this
    simpa using this
  have hB15 := hB14.kept hk5 (fun (e : w.heap.size = w2.heap.size) => by omega)
  have hB25 := hB24.kept hk5 (fun (e : w1.heap.size = w2.heap.size) => by have := hB2.lt; omega)
  have hb05 : Below w.heap.size w w5 := hb04.trans (hk5.below (by omega) (fun b hb (e : b = w2.heap.size) => by omega))
  have hcb5 := hB15.cell
  have hc35 := hB35.cell
  have hf35 := hB35.frozen
  have hl35 := hB35.lt
  have hl15 := hB15.lt
  have hsl2 := hide (h2.below hb05)
  have hsz5 := hb05.size
  · · go_wp2_with (first | (at_builtin; refine wpList_cp23 (xs := a.leaves.flatMap lvCells) rfl _ _ rfl rfl rfl rfl hsl2.out hsz5 (lv_len _) (fun k j d hd hj => flat2 _ k j d hd hj) (lv_one _) hn2 ?_; intro g6 cap6 w6 ho6 hb6 hg6
                            have hB36 := hB35.kept (Kept.of_below hb6 (fun _ => False)) id; have hc36 := hB36.cell; have hf36 := hB36.frozen; have hl36 := hB36.lt
                            have hB16 := hB15.kept (Kept.of_below hb6 (fun _ => False)) id
                            obtain ⟨w7, hw7⟩ : ∃ w7, w6.setCell ⟨w2.heap.size, 3, none⟩ (.slice (some ⟨g6, 0, none⟩) a.leaves.length cap6) = w7 := ⟨_, rfl⟩
                            have hk7 : Kept w6 w7 (fun k => k = w2.heap.size) := hw7 ▸ (Kept.refl w6 (fun k => k = w2.heap.size)).setCell (p := ⟨w2.heap.size, 3, none⟩) (fun _ => rfl) _
                            have hB37 : Blk w7 w2.heap.size 26 #[.int .i64 a.letters, .int .i64 a.states, .slice A4 a.accept.length c4, .slice (some ⟨g6, 0, none⟩) a.leaves.length cap6, .slice A3 a.branches.length c3] := (by have := hB36.set_ 3 (.slice (some ⟨g6, 0, none⟩) a.leaves.length cap6); rw [hw7] at this; simpa using this)
                            have hB17 := hB16.kept hk7 (fun (e : w.heap.size = w2.heap.size) => by omega)
                            have hb07 : Below w.heap.size w w7 := (hb05.trans (hb6.mono hsz5)).trans (hk7.below (by have := hb6.size; omega) (fun b hb (e : b = w2.heap.size) => by omega))
                            have hcb7 := hB17.cell; have hl17 := hB17.lt; have hc37 := hB37.cell; have hf37 := hB37.frozen; have hl37 := hB37.lt; have hsz7 := hb07.size
                            have hsl3 := hide (h3.below hb07))
                         | (at_builtin; refine wpList_cp24 (xs := a.branches.flatMap brCells) rfl _ _ rfl rfl rfl rfl hsl3.out hsz7 (br_len _) (fun k j d hd hj => flat4 _ k j d hd hj) (br_one _) hn3 ?_; intro g8 cap8 w8 ho8 hb8 hg8
                            have hB38 := hB37.kept (Kept.of_below hb8 (fun _ => False)) id; have hc38 := hB38.cell; have hf38 := hB38.frozen; have hl38 := hB38.lt
                            have hB28 := ((hB25.kept (Kept.of_below hb6 (fun _ => False)) id).kept hk7 (fun (e : w1.heap.size = w2.heap.size) => by have := hB2.lt; omega)).kept (Kept.of_below hb8 (fun _ => False)) id
                            have hc28 := hB28.cell; have hf28 := hB28.frozen; have hl28 := hB28.lt; have hne12 : w1.heap.size ≠ w2.heap.size := (by have := hB2.lt; omega)))
      have hk9 := (Kept.refl w8 (fun k => k = w2.heap.size)).setCell (p := ⟨w2.heap.size, 4, none⟩) (fun _ => rfl) (.slice (some ⟨g8, 0, none⟩) a.branches.length cap8)
      generalize w8.setCell ⟨w2.heap.size, 4, none⟩ (.slice (some ⟨g8, 0, none⟩) a.branches.length cap8) = w9 at *
      have hB29 := hB28.kept hk9 (fun (e : w1.heap.size = w2.heap.size) => hne12 e)
      obtain ⟨wF, hwF, hgF, hkF⟩ := set5_facts hB29 (.int .i64 a.letters) (.int .i64 a.states) (.slice A4 a.accept.length c4) (.slice (some ⟨g6, 0, none⟩) a.leaves.length cap6) (.slice (some ⟨g8, 0, none⟩) a.branches.length cap8)
      change bodyPost _ _ _ _ _ (set5 w9 w1.heap.size (.int .i64 a.letters) (.int .i64 a.states) (.slice A4 a.accept.length c4) (.slice (some ⟨g6, 0, none⟩) a.leaves.length cap6) (.slice (some ⟨g8, 0, none⟩) a.branches.length cap8))
      rw [hwF]
      have hcF := hgF.cell
      have hB39 := hB38.kept hk9
      have n34 : ∀ e, e ≠ 26 → ∀ g cs, g = w2.heap.size → ¬ Blk w4 g e cs := fun e he g cs eg hb => by subst eg; exact hB34.ne_ hb (fun h => he h.symm) rfl
      have n36 : ∀ e, e ≠ 26 → ∀ g cs, g = w2.heap.size → ¬ Blk w6 g e cs := fun e he g cs eg hb => by subst eg; exact hB36.ne_ hb (fun h => he h.symm) rfl
      have n38 : ∀ e, e ≠ 26 → ∀ g cs, g = w2.heap.size → ¬ Blk w8 g e cs := fun e he g cs eg hb => by subst eg; exact hB38.ne_ hb (fun h => he h.symm) rfl
      have n29 : ∀ e, e ≠ 26 → ∀ g cs, g = w1.heap.size → ¬ Blk w9 g e cs := fun e he g cs eg hb => by subst eg; exact hB29.ne_ hb (fun h => he h.symm) rfl
      have hK6 := Kept.of_below hb6 (fun _ => False)
      have hK8 := Kept.of_below hb8 (fun _ => False)
      have r4 := own_ty hkF (own_ty hk9 (own_ty hK8 (own_ty hk7 (own_ty hK6 (own_ty hk5 ho4 (n34 3 (by decide))) (fun _ _ h => h.elim)) (n36 3 (by decide))) (fun _ _ h => h.elim)) (n38 3 (by decide))) (n29 3 (by decide))
      have r6 := own_ty hkF (own_ty hk9 (own_ty hK8 (own_ty hk7 ho6 (n36 36 (by decide))) (fun _ _ h => h.elim)) (n38 36 (by decide))) (n29 36 (by decide))
      have r8 := own_ty hkF (own_ty hk9 ho8 (n38 59 (by decide))) (n29 59 (by decide))
      obtain ⟨_, _, e1, s1⟩ := sl_own (enc := encI) r4 (fun k j d hd hj => by
        have hj0 : j = 0 := by omega
        subst hj0
        rw [Nat.mul_one, Nat.add_zero, List.getElem?_map, hd]
        rfl)
      obtain ⟨_, _, e2, s2⟩ := sl_own (enc := encL) r6 (fun k j d hd hj => flat2 _ k j d hd hj)
      obtain ⟨_, _, e3, s3⟩ := sl_own (enc := encBr) r8 (fun k j d hd hj => flat4 _ k j d hd hj)
      have hbF : Below w.heap.size w wF := ((hb07.trans (hb8.mono hsz7)).trans (hk9.below (by omega) (fun b hb (e : b = w2.heap.size) => by omega))).trans (hkF.below (by have := hk9.size; omega) (fun b hb (e : b = w1.heap.size) => by omega))
      injection e1 with e1 _ e1c
      injection e2 with e2 _ e2c
      injection e3 with e3 _ e3c
      subst e1 e2 e3
      exact bodyPost_ret (v := .agg #[.int .i64 a.letters, .int .i64 a.states, .slice A4 a.accept.length c4, .slice (some ⟨g6, 0, none⟩) a.leaves.length cap6, .slice (some ⟨g8, 0, none⟩) a.branches.length cap8]) (by simp [results, Try.results20, go_sem, hcF]) rfl ⟨hbF, _, _, _, _, _, _, rfl, s1, s2, s3⟩
end Go.Proofs.Ytnimlcbgeiajiaa

namespace Go.Proofs.Ytnimlcbgeiajiaa
open Go.RowKit

set_option maxHeartbeats 2000000 in
set_option maxRecDepth 100000 in
theorem compareInts_eq {w : World} {B1 B2 c1 c2 : Nat} {A1 A2 : Option Addr} {xs : List Int} (h1 : Sl w B1 1 encI A1 xs) (h2 : Sl w B2 1 encI A2 xs) (hB1 : B1 ≤ w.heap.size) (hB2 : B2 ≤ w.heap.size) :
    Calls Try.prog 77 #[.slice A1 xs.length c1, .slice A2 xs.length c2] w (Ret fun r w' => r = .int .i64 0 ∧ Below w.heap.size w w') := by
  have hn := h1.1
  go_enter Try.func77, Try.ntmps77
  go_wp2_with fail
  go_loopw [5] (fun ii wr => ∃ (i : Nat), ii = .int .i64 (i : Int) ∧ i ≤ xs.length ∧ Below w.heap.size w wr) (fun ii _ => xs.length - (intOf ii).toNat)
  case atStart => exact ⟨0, rfl, Nat.zero_le _, Below.refl _ _⟩
  case round =>
    obtain ⟨i, rfl, hi, hB⟩ := hrel
    by_cases hlt : i < xs.length
    · obtain ⟨b1, o1, x, rfl, hb1, hx, hc1⟩ := h1.at hlt
      obtain ⟨b2, o2, y, rfl, hb2, hy, hc2⟩ := h2.at hlt
      have hxy : y = x := by rw [hx] at hy; exact (Option.some.inj hy).symm
      subst hxy
      have e1 := (hB.cell (by show b1 < _; omega)).trans (hc1 0 (by omega))
      have e2 := (hB.cell (by show b2 < _; omega)).trans (hc2 0 (by omega))
      simp only [Nat.mul_one, Nat.add_zero, encI] at e1 e2
      have hst := hide ((hB.trans ((drew_below wr).mono hB.size)).trans ((drew_below wr.drew).mono hB.size))
      clear hx hy hc1 hc2
      go_wp2_with fail
      refine Reg.region_plain [0, 0, 3, 7, 0, 0, 48, 112, 255] (by kernel_rfl) (by repeat (first | exact Reg.NoQ.body (fun _ _ h => h) (fun _ h => h) | exact Reg.NoQ.body (fun _ _ h => Ending.noConfusion h.1) (fun _ h => Ending.noConfusion h.1) | refine Reg.NoQ.then ?_ | refine Reg.NoQ.inBlock ?_)) ?_
      go_wp2_with fail
      refine Reg.region_plain [0, 0, 3, 7, 0, 0, 48, 112, 255] (by kernel_rfl) (by repeat (first | exact Reg.NoQ.body (fun _ _ h => h) (fun _ h => h) | exact Reg.NoQ.body (fun _ _ h => Ending.noConfusion h.1) (fun _ h => Ending.noConfusion h.1) | refine Reg.NoQ.then ?_ | refine Reg.NoQ.inBlock ?_)) ?_
      go_wp2_with fail
      exact ⟨⟨i + 1, by simp, by omega, hst.out⟩, by simp [intOf]; omega⟩
    · go_wp2_with fail
      go_ret
      exact ⟨rfl, hB⟩

set_option maxHeartbeats 1000000 in
theorem sameInts_eq {w : World} {B1 B2 c1 c2 : Nat} {A1 A2 : Option Addr} {xs : List Int} (h1 : Sl w B1 1 encI A1 xs) (h2 : Sl w B2 1 encI A2 xs) (hB1 : B1 ≤ w.heap.size) (hB2 : B2 ≤ w.heap.size) :
    Calls Try.prog 50 #[.slice A1 xs.length c1, .slice A2 xs.length c2] w (Ret fun r w' => r = .bool true ∧ Below w.heap.size w w') := by
  go_enter Try.func50, Try.ntmps50
  go_wp2_with (go_at_call 77; refine Calls.ret (compareInts_eq h1 h2 hB1 hB2) ?_; rintro v w2 ⟨rfl, hb⟩; have hb2 := hide hb; clear hb)
  go_ret
  exact ⟨rfl, hb2.out⟩

set_option maxHeartbeats 4000000 in
set_option maxRecDepth 100000 in
theorem sameAutomaton_eq {v1 v2 : Value} {a : TA} {w : World} (h : IsTA w w.heap.size v1 a) (h' : IsTA w w.heap.size v2 a) :
    Calls Try.prog 23 #[v1, v2] w (Ret fun r w' => r = .bool true ∧ Below w.heap.size w w') := by
  obtain ⟨A1, c1, A2, c2, A3, c3, rfl, h1, h2, h3⟩ := h
  obtain ⟨A4, c4, A5, c5, A6, c6, rfl, h4, h5, h6⟩ := h'
  obtain ⟨w1, hw1, hb1, hB1, hk1⟩ := box_blk w #[.int .i64 a.letters, .int .i64 a.states, .slice A1 a.accept.length c1, .slice A2 a.leaves.length c2, .slice A3 a.branches.length c3] 26
  obtain ⟨w2, hw2, hb2, hB2, hk2⟩ := box_blk w1 #[.int .i64 a.letters, .int .i64 a.states, .slice A4 a.accept.length c4, .slice A5 a.leaves.length c5, .slice A6 a.branches.length c6] 26
  have hsz1 := hb1.size
  have hsz2 := hb2.size
  have hb02 := hb1.trans (hb2.mono hsz1)
  have hB12 := hB1.kept hk2 id
  have hcb1 := hB12.cell
  have hcb2 := hB2.cell
  have hn1 := h1.1
  have hn2 := h2.1
  have hn3 := h3.1
  go_enter Try.func23, Try.ntmps23
  go_wp2_with fail
  go_loopw [5] (fun ii wr => ∃ (i : Nat), ii = .int .i64 (i : Int) ∧ i ≤ a.leaves.length ∧ Below w2.heap.size w2 wr) (fun ii _ => a.leaves.length - (intOf ii).toNat)
  case atStart => exact ⟨0, rfl, Nat.zero_le _, Below.refl _ _⟩
  case round =>
    obtain ⟨i, rfl, hi, hB⟩ := hrel
    have hcr1 := (hB12.kept (Kept.of_below hB (fun _ => False)) id).cell
    have hcr2 := (hB2.kept (Kept.of_below hB (fun _ => False)) id).cell
    by_cases hlt : i < a.leaves.length
    · obtain ⟨b1, o1, x, rfl, hb1', hx, hc1⟩ := h2.at hlt
      obtain ⟨b2, o2, y, rfl, hb2', hy, hc2⟩ := h5.at hlt
      have hxy : y = x := by rw [hx] at hy; exact (Option.some.inj hy).symm
      subst hxy
      have e1 := fun j hj => (hB.cell (by show b1 < _; omega)).trans ((hb02.cell (by exact hb1')).trans (hc1 j hj))
      have e2 := fun j hj => (hB.cell (by show b2 < _; omega)).trans ((hb02.cell (by exact hb2')).trans (hc2 j hj))
      have e10 := e1 0 (by omega)
      have e11 := e1 1 (by omega)
      have e20 := e2 0 (by omega)
      have e21 := e2 1 (by omega)
      simp only [Nat.add_zero, encL] at e10 e11 e20 e21
      have hst := hide (hB.trans ((drew_below wr).mono hB.size))
      clear hx hy hc1 hc2 e1 e2
      go_wp2_with fail
      refine Reg.region_plain [0, 1, 0, 7, 15, 0, 32, 0, 224, 480, 1023] (by kernel_rfl) (by repeat (first | exact Reg.NoQ.body (fun _ _ h => h) (fun _ h => h) | exact Reg.NoQ.body (fun _ _ h => Ending.noConfusion h.1) (fun _ h => Ending.noConfusion h.1) | refine Reg.NoQ.then ?_ | refine Reg.NoQ.inBlock ?_)) ?_
      go_wp2_with fail
      exact ⟨⟨i + 1, by simp, by omega, hst.out⟩, by simp [intOf]; omega⟩
    · go_wp2_with fail
      obtain ⟨wa, rfl⟩ : ∃ wa : World, wa = wr := ⟨_, rfl⟩
      have hBa := hide hB
      go_loopw [6] (fun ii wr => ∃ (i : Nat), ii = .int .i64 (i : Int) ∧ i ≤ a.branches.length ∧ Below w2.heap.size w2 wr) (fun ii _ => a.branches.length - (intOf ii).toNat)
      case atStart => exact ⟨0, rfl, Nat.zero_le _, hB⟩
      case round =>
        obtain ⟨i', rfl, hi', hB'⟩ := hrel
        have hcs1 := (hB12.kept (Kept.of_below hB' (fun _ => False)) id).cell
        have hcs2 := (hB2.kept (Kept.of_below hB' (fun _ => False)) id).cell
        by_cases hlt' : i' < a.branches.length
        · obtain ⟨b1, o1, x, rfl, hb1', hx, hc1⟩ := h3.at hlt'
          obtain ⟨b2, o2, y, rfl, hb2', hy, hc2⟩ := h6.at hlt'
          have hxy : y = x := by rw [hx] at hy; exact (Option.some.inj hy).symm
          subst hxy
          have e1 := fun j hj => (hB'.cell (by show b1 < _; omega)).trans ((hb02.cell (by exact hb1')).trans (hc1 j hj))
          have e2 := fun j hj => (hB'.cell (by show b2 < _; omega)).trans ((hb02.cell (by exact hb2')).trans (hc2 j hj))
          have e10 := e1 0 (by omega)
          have e11 := e1 1 (by omega)
          have e12 := e1 2 (by omega)
          have e13 := e1 3 (by omega)
          have e20 := e2 0 (by omega)
          have e21 := e2 1 (by omega)
          have e22 := e2 2 (by omega)
          have e23 := e2 3 (by omega)
          simp only [Nat.add_zero, encBr] at e10 e11 e12 e13 e20 e21 e22 e23
          have hst := hide (hB'.trans ((drew_below wr).mono hB'.size))
          clear hx hy hc1 hc2 e1 e2 hcr1 hcr2
          go_wp2_with fail
          refine Reg.region_plain [0, 1, 0, 7, 15, 0, 32, 0, 224, 480, 1023] (by kernel_rfl) (by repeat (first | exact Reg.NoQ.body (fun _ _ h => h) (fun _ h => h) | exact Reg.NoQ.body (fun _ _ h => Ending.noConfusion h.1) (fun _ h => Ending.noConfusion h.1) | refine Reg.NoQ.then ?_ | refine Reg.NoQ.inBlock ?_)) ?_
          go_wp2_with fail
          exact ⟨⟨i' + 1, by simp, by omega, hst.out⟩, by simp [intOf]; omega⟩
        · have hsw := hB'.size
          have hS1 := hide (((h1.below hb02).mono (show w.heap.size ≤ w2.heap.size by omega)).below hB')
          have hS4 := hide (((h4.below hb02).mono (show w.heap.size ≤ w2.heap.size by omega)).below hB')
          clear hcr1 hcr2
          go_wp2_with (go_at_call 50; refine Calls.ret (sameInts_eq hS1.out hS4.out (by omega) (by omega)) ?_; rintro v w9 ⟨rfl, hb⟩; have hb9 := hide hb; clear hb)
          go_ret
          exact ⟨rfl, (hb02.trans (hB'.mono (by omega))).trans (hb9.out.mono (by omega))⟩

def TA.small (a : TA) : Bool := !a.big && (decide (a.states ≤ 5) && decide (a.letters ≤ 3) || !a.valid)
set_option maxHeartbeats 4000000 in
set_option maxRecDepth 100000 in
theorem small_any {v : Value} {a : TA} {w : World} (h : IsTA w w.heap.size v a) :
    Calls Try.prog 24 #[v] w (Ret fun r w' => r = .bool a.small ∧ Below w.heap.size w w') := by
  obtain ⟨A1, c1, A2, c2, A3, c3, rfl, h1, h2, h3⟩ := h
  obtain ⟨w1, hw1, hb1, hB1, hk1⟩ := box_blk w #[.int .i64 a.letters, .int .i64 a.states, .slice A1 a.accept.length c1, .slice A2 a.leaves.length c2, .slice A3 a.branches.length c3] 26
  have hsz := hb1.size
  have hT : IsTA w1 w1.heap.size (.agg #[.int .i64 a.letters, .int .i64 a.states, .slice A1 a.accept.length c1, .slice A2 a.leaves.length c2, .slice A3 a.branches.length c3]) a :=
    ⟨A1, c1, A2, c2, A3, c3, rfl, (h1.below hb1).mono hsz, (h2.below hb1).mono hsz, (h3.below hb1).mono hsz⟩
  have hHT := hide hT
  have hcb := hB1.cell
  clear hT h1 h2 h3
  cases hbig : a.big
  · have hBG := hide hbig
    clear hbig
    by_cases hs5 : a.states ≤ 5 ∧ a.letters ≤ 3
    · have hfin : Hid (a.small = true) := by show _ = _; simp [TA.small, hBG.out, hs5.1, hs5.2]
      obtain ⟨hs5, hs3⟩ := hs5
      go_enter Try.func24, Try.ntmps24
      go_wp2_with (go_at_call 16; refine (Big_any _ _ _ hHT.out).mono ?_; rintro e w2 ⟨rfl, hb⟩; rw [hBG.out]; have hb2 := hide hb; have hcb2 := (hB1.kept (Kept.of_below hb (fun _ => False)) id).cell; clear hb)
      go_ret
      exact ⟨by rw [hfin.out]; rfl, hb1.trans (hb2.out.mono hsz)⟩
    · have hfin : Hid (a.small = !a.valid) := by
        show _ = _
        have : (decide (a.states ≤ 5) && decide (a.letters ≤ 3)) = false := by simp; omega
        simp only [TA.small, hBG.out, this]
        rfl
      have hHS := hide hs5
      by_cases h5 : a.states ≤ 5
      · have h3 : ¬ a.letters ≤ 3 := fun h => hHS.out ⟨h5, h⟩
        clear hs5
        cases hv : a.valid
        all_goals
          have hV := hide hv
          clear hv
          go_enter Try.func24, Try.ntmps24
          go_wp2_with (first | (go_at_call 16; refine (Big_any _ _ _ hHT.out).mono ?_; rintro e w2 ⟨rfl, hb⟩; rw [hBG.out]; have hb2 := hide hb; have hsz2 := hb.size; have hT2 := hide (hHT.out.keep (fun _ hp => hb.cell hp) hsz2); have hcb2 := (hB1.kept (Kept.of_below hb (fun _ => False)) id).cell; clear hb) | (go_at_call 19; refine (refValidate_any _ _ _ hT2.out).mono ?_; rintro e w3 ⟨rfl, hb⟩; rw [hV.out]; simp only [errno]; have hb3 := hide hb; clear hb))
          go_ret
          exact ⟨by rw [hfin.out, hV.out]; first | rfl | (simp; done) | (simp; omega), (hb1.trans (hb2.out.mono hsz)).trans (hb3.out.mono (by omega))⟩
      · clear hs5
        cases hv : a.valid
        all_goals
          have hV := hide hv
          clear hv
          go_enter Try.func24, Try.ntmps24
          go_wp2_with (first | (go_at_call 16; refine (Big_any _ _ _ hHT.out).mono ?_; rintro e w2 ⟨rfl, hb⟩; rw [hBG.out]; have hb2 := hide hb; have hsz2 := hb.size; have hT2 := hide (hHT.out.keep (fun _ hp => hb.cell hp) hsz2); have hcb2 := (hB1.kept (Kept.of_below hb (fun _ => False)) id).cell; clear hb) | (go_at_call 19; refine (refValidate_any _ _ _ hT2.out).mono ?_; rintro e w3 ⟨rfl, hb⟩; rw [hV.out]; simp only [errno]; have hb3 := hide hb; clear hb))
          go_ret
          exact ⟨by rw [hfin.out, hV.out]; first | rfl | (simp; done) | (simp; omega), (hb1.trans (hb2.out.mono hsz)).trans (hb3.out.mono (by omega))⟩
  · have hBG := hide hbig
    clear hbig
    have hfin : Hid (a.small = false) := by show _ = _; simp [TA.small, hBG.out]
    go_enter Try.func24, Try.ntmps24
    go_wp2_with (go_at_call 16; refine (Big_any _ _ _ hHT.out).mono ?_; rintro e w2 ⟨rfl, hb⟩; rw [hBG.out]; have hb2 := hide hb; clear hb)
    go_ret
    exact ⟨by rw [hfin.out]; rfl, hb1.trans (hb2.out.mono hsz)⟩
end Go.Proofs.Ytnimlcbgeiajiaa

namespace Go.Proofs.Ytnimlcbgeiajiaa
open Go.RowKit

deriving instance DecidableEq for Leaf
deriving instance DecidableEq for Branch
deriving instance DecidableEq for TA
theorem take_snoc_eq {α : Type} {xs ys : List α} {i : Nat} {x : α} (hx : xs[i]? = some x) (hy : ys[i]? = some x) (h : xs.take i = ys.take i) : xs.take (i + 1) = ys.take (i + 1) := by
  rw [List.take_add_one, List.take_add_one, h, hx, hy]
theorem take_all_eq {α : Type} {xs ys : List α} {i : Nat} (h : xs.take i = ys.take i) (h1 : xs.length ≤ i) (h2 : ys.length ≤ i) : xs = ys := by
  rw [List.take_of_length_le h1, List.take_of_length_le h2] at h
  exact h
theorem ne_of_at {α : Type} {xs ys : List α} {i : Nat} {x y : α} (hx : xs[i]? = some x) (hy : ys[i]? = some y) (h : x ≠ y) : xs ≠ ys := by
  rintro rfl
  rw [hx] at hy
  exact h (Option.some.inj hy)

set_option maxHeartbeats 4000000 in
set_option maxRecDepth 100000 in
theorem compareInts_any {w : World} {B1 B2 c1 c2 : Nat} {A1 A2 : Option Addr} {xs ys : List Int} (h1 : Sl w B1 1 encI A1 xs) (h2 : Sl w B2 1 encI A2 ys) (hB1 : B1 ≤ w.heap.size) (hB2 : B2 ≤ w.heap.size) :
    Calls Try.prog 77 #[.slice A1 xs.length c1, .slice A2 ys.length c2] w (Ret fun r w' => (∃ z : Int, r = .int .i64 z ∧ (z = 0 ↔ xs = ys)) ∧ Below w.heap.size w w') := by
  have hn := h1.1
  have hm := h2.1
  go_enter Try.func77, Try.ntmps77
  go_wp2_with fail
  go_loopw [5] (fun ii wr => ∃ (i : Nat), ii = .int .i64 (i : Int) ∧ i ≤ xs.length ∧ i ≤ ys.length ∧ Below w.heap.size w wr ∧ Hid (xs.take i = ys.take i)) (fun ii _ => xs.length - (intOf ii).toNat)
  case atStart => exact ⟨0, rfl, Nat.zero_le _, Nat.zero_le _, Below.refl _ _, by show _ = _; simp⟩
  case round =>
    obtain ⟨i, rfl, hi, hi2, hB, hT⟩ := hrel
    by_cases hlt : i < xs.length
    · by_cases hlt2 : i < ys.length
      · obtain ⟨b1, o1, x, rfl, hb1, hx, hc1⟩ := h1.at hlt
        obtain ⟨b2, o2, y, rfl, hb2, hy, hc2⟩ := h2.at hlt2
        have e1 := (hB.cell (by show b1 < _; omega)).trans (hc1 0 (by omega))
        have e2 := (hB.cell (by show b2 < _; omega)).trans (hc2 0 (by omega))
        simp only [Nat.mul_one, Nat.add_zero, encI] at e1 e2
        have hst0 := hide (hB.trans ((drew_below wr).mono hB.size))
        have hst := hide ((hB.trans ((drew_below wr).mono hB.size)).trans ((drew_below wr.drew).mono hB.size))
        have hHX := hide hx
        have hHY := hide hy
        clear hx hy hc1 hc2
        rcases Int.lt_trichotomy x y with hxy | hxy | hxy
        · have hne := hide (ne_of_at hHX.out hHY.out (by omega))
          go_wp2_with fail
          refine Reg.region_plain [0, 0, 3, 7, 0, 0, 48, 112, 255] (by kernel_rfl) (by repeat (first | exact Reg.NoQ.body (fun _ _ h => h) (fun _ h => h) | exact Reg.NoQ.body (fun _ _ h => Ending.noConfusion h.1) (fun _ h => Ending.noConfusion h.1) | refine Reg.NoQ.then ?_ | refine Reg.NoQ.inBlock ?_)) ?_
          go_wp2_with fail
          go_ret
          exact ⟨⟨_, rfl, by simp [hne.out]⟩, hst0.out⟩
        · subst hxy
          go_wp2_with fail
          refine Reg.region_plain [0, 0, 3, 7, 0, 0, 48, 112, 255] (by kernel_rfl) (by repeat (first | exact Reg.NoQ.body (fun _ _ h => h) (fun _ h => h) | exact Reg.NoQ.body (fun _ _ h => Ending.noConfusion h.1) (fun _ h => Ending.noConfusion h.1) | refine Reg.NoQ.then ?_ | refine Reg.NoQ.inBlock ?_)) ?_
          go_wp2_with fail
          refine Reg.region_plain [0, 0, 3, 7, 0, 0, 48, 112, 255] (by kernel_rfl) (by repeat (first | exact Reg.NoQ.body (fun _ _ h => h) (fun _ h => h) | exact Reg.NoQ.body (fun _ _ h => Ending.noConfusion h.1) (fun _ h => Ending.noConfusion h.1) | refine Reg.NoQ.then ?_ | refine Reg.NoQ.inBlock ?_)) ?_
          go_wp2_with fail
          exact ⟨⟨i + 1, by simp, by omega, by omega, hst.out, take_snoc_eq hHX.out hHY.out hT.out⟩, by simp [intOf]; omega⟩
        · have hne := hide (ne_of_at hHX.out hHY.out (by omega))
          have hnl : ¬ x < y := by omega
          go_wp2_with fail
          refine Reg.region_plain [0, 0, 3, 7, 0, 0, 48, 112, 255] (by kernel_rfl) (by repeat (first | exact Reg.NoQ.body (fun _ _ h => h) (fun _ h => h) | exact Reg.NoQ.body (fun _ _ h => Ending.noConfusion h.1) (fun _ h => Ending.noConfusion h.1) | refine Reg.NoQ.then ?_ | refine Reg.NoQ.inBlock ?_)) ?_
          go_wp2_with fail
          refine Reg.region_plain [0, 0, 3, 7, 0, 0, 48, 112, 255] (by kernel_rfl) (by repeat (first | exact Reg.NoQ.body (fun _ _ h => h) (fun _ h => h) | exact Reg.NoQ.body (fun _ _ h => Ending.noConfusion h.1) (fun _ h => Ending.noConfusion h.1) | refine Reg.NoQ.then ?_ | refine Reg.NoQ.inBlock ?_)) ?_
          go_wp2_with fail
          go_ret
          exact ⟨⟨_, rfl, by simp [hne.out]⟩, hst.out⟩
      · have hne : Hid (xs ≠ ys) := fun e => by rw [e] at hlt; exact hlt2 hlt
        have hlt3 : ys.length < xs.length := by omega
        have hlt4 : ¬ xs.length < ys.length := by omega
        go_wp2_with fail
        go_ret
        exact ⟨⟨_, rfl, by simp [hne.out]⟩, hB⟩
    · by_cases hlt2 : i < ys.length
      · have hne : Hid (xs ≠ ys) := fun e => by rw [← e] at hlt2; exact hlt hlt2
        have hlt4 : xs.length < ys.length := by omega
        go_wp2_with fail
        go_ret
        exact ⟨⟨_, rfl, by simp [hne.out]⟩, hB⟩
      · have he : Hid (xs = ys) := take_all_eq hT.out (by omega) (by omega)
        have hlt4 : ¬ xs.length < ys.length := by omega
        have hlt3 : ¬ ys.length < xs.length := by omega
        go_wp2_with fail
        go_ret
        exact ⟨⟨_, rfl, by simp [he.out]⟩, hB⟩

set_option maxHeartbeats 1000000 in
theorem sameInts_any {w : World} {B1 B2 c1 c2 : Nat} {A1 A2 : Option Addr} {xs ys : List Int} (h1 : Sl w B1 1 encI A1 xs) (h2 : Sl w B2 1 encI A2 ys) (hB1 : B1 ≤ w.heap.size) (hB2 : B2 ≤ w.heap.size) :
    Calls Try.prog 50 #[.slice A1 xs.length c1, .slice A2 ys.length c2] w (Ret fun r w' => r = .bool (decide (xs = ys)) ∧ Below w.heap.size w w') := by
  go_enter Try.func50, Try.ntmps50
  go_wp2_with (go_at_call 77; refine Calls.ret (compareInts_any h1 h2 hB1 hB2) ?_; rintro v w2 ⟨⟨z, rfl, hz⟩, hb⟩; have hb2 := hide hb; have hZ := hide hz; clear hb hz)
  go_ret
  exact ⟨congrArg Value.bool (decide_eq_decide.2 hZ.out), hb2.out⟩

set_option maxHeartbeats 8000000 in
set_option maxRecDepth 100000 in
theorem sameAutomaton_any {v1 v2 : Value} {a b : TA} {w : World} (h : IsTA w w.heap.size v1 a) (h' : IsTA w w.heap.size v2 b) :
    Calls Try.prog 23 #[v1, v2] w (Ret fun r w' => r = .bool (decide (a = b)) ∧ Below w.heap.size w w') := by
  obtain ⟨A1, c1, A2, c2, A3, c3, rfl, h1, h2, h3⟩ := h
  obtain ⟨A4, c4, A5, c5, A6, c6, rfl, h4, h5, h6⟩ := h'
  obtain ⟨La, Sa, ac, lf, br⟩ := a
  obtain ⟨Lb, Sb, ac', lf', br'⟩ := b
  simp only at h1 h2 h3 h4 h5 h6 ⊢
  obtain ⟨n2, hn2⟩ : ∃ n, lf.length = n := ⟨_, rfl⟩
  obtain ⟨n3, hn3⟩ : ∃ n, br.length = n := ⟨_, rfl⟩
  obtain ⟨m2, hm2⟩ : ∃ n, lf'.length = n := ⟨_, rfl⟩
  obtain ⟨m3, hm3⟩ : ∃ n, br'.length = n := ⟨_, rfl⟩
  have b2 : n2 ≤ 9223372036854775807 := hn2 ▸ h2.1
  have b3 : n3 ≤ 9223372036854775807 := hn3 ▸ h3.1
  rw [hn2, hn3, hm2, hm3]
  have HN2 := hide hn2
  have HN3 := hide hn3
  have HM2 := hide hm2
  have HM3 := hide hm3
  clear hn2 hn3 hm2 hm3
  obtain ⟨w1, hw1, hb1, hB1, hk1⟩ := box_blk w #[.int .i64 La, .int .i64 Sa, .slice A1 ac.length c1, .slice A2 n2 c2, .slice A3 n3 c3] 26
  obtain ⟨w2, hw2, hb2, hB2, hk2⟩ := box_blk w1 #[.int .i64 Lb, .int .i64 Sb, .slice A4 ac'.length c4, .slice A5 m2 c5, .slice A6 m3 c6] 26
  have hsz1 := hb1.size
  have hsz2 := hb2.size
  have hb02 := hb1.trans (hb2.mono hsz1)
  have hB12 := hB1.kept hk2 id
  have hcb1 := hB12.cell
  have hcb2 := hB2.cell
  by_cases g1 : La = Lb
  case neg =>
    have hne : Hid ((⟨La, Sa, ac, lf, br⟩ : TA) ≠ ⟨Lb, Sb, ac', lf', br'⟩) := fun e => g1 (congrArg TA.letters e)
    go_enter Try.func23, Try.ntmps23
    go_wp2_with fail
    go_ret
    exact ⟨congrArg Value.bool (decide_eq_false hne.out).symm, hb02⟩
  subst g1
  by_cases g2 : Sa = Sb
  case neg =>
    have hne : Hid ((⟨La, Sa, ac, lf, br⟩ : TA) ≠ ⟨La, Sb, ac', lf', br'⟩) := fun e => g2 (congrArg TA.states e)
    go_enter Try.func23, Try.ntmps23
    go_wp2_with fail
    go_ret
    exact ⟨congrArg Value.bool (decide_eq_false hne.out).symm, hb02⟩
  subst g2
  by_cases g3 : n2 = m2
  case neg =>
    have hne : Hid ((⟨La, Sa, ac, lf, br⟩ : TA) ≠ ⟨La, Sa, ac', lf', br'⟩) := fun e => g3 (by rw [← HN2.out, ← HM2.out]; exact congrArg (fun a => a.leaves.length) e)
    go_enter Try.func23, Try.ntmps23
    go_wp2_with fail
    go_ret
    exact ⟨congrArg Value.bool (decide_eq_false hne.out).symm, hb02⟩
  subst g3
  by_cases g4 : n3 = m3
  case neg =>
    have hne : Hid ((⟨La, Sa, ac, lf, br⟩ : TA) ≠ ⟨La, Sa, ac', lf', br'⟩) := fun e => g4 (by rw [← HN3.out, ← HM3.out]; exact congrArg (fun a => a.branches.length) e)
    go_enter Try.func23, Try.ntmps23
    go_wp2_with fail
    go_ret
    exact ⟨congrArg Value.bool (decide_eq_false hne.out).symm, hb02⟩
  subst g4
  go_enter Try.func23, Try.ntmps23
  go_wp2_with fail
  go_loopw [5] (fun ii wr => ∃ (i : Nat), ii = .int .i64 (i : Int) ∧ i ≤ n2 ∧ Below w2.heap.size w2 wr ∧ Hid (lf.take i = lf'.take i)) (fun ii _ => n2 - (intOf ii).toNat)
  case atStart => exact ⟨0, rfl, Nat.zero_le _, Below.refl _ _, by show _ = _; simp⟩
  case round =>
    obtain ⟨i, rfl, hi, hB, hT⟩ := hrel
    have hcr1 := (hB12.kept (Kept.of_below hB (fun _ => False)) id).cell
    have hcr2 := (hB2.kept (Kept.of_below hB (fun _ => False)) id).cell
    by_cases hlt : i < n2
    · obtain ⟨b1, o1, x, rfl, hb1', hx, hc1⟩ := h2.at (k := i) (by have := HN2.out; omega)
      obtain ⟨b2, o2, y, rfl, hb2', hy, hc2⟩ := h5.at (k := i) (by have := HM2.out; omega)
      have hHX := hide hx
      have hHY := hide hy
      have e1 := fun j hj => (hB.cell (by show b1 < _; omega)).trans ((hb02.cell (by exact hb1')).trans (hc1 j hj))
      have e2 := fun j hj => (hB.cell (by show b2 < _; omega)).trans ((hb02.cell (by exact hb2')).trans (hc2 j hj))
      have e10 := e1 0 (by omega)
      have e11 := e1 1 (by omega)
      have e20 := e2 0 (by omega)
      have e21 := e2 1 (by omega)
      simp only [Nat.add_zero, encL] at e10 e11 e20 e21
      have hst := hide (hB.trans ((drew_below wr).mono hB.size))
      clear hx hy hc1 hc2 e1 e2
      by_cases hxy : x = y
      · subst hxy
        go_wp2_with fail
        refine Reg.region_plain [0, 1, 0, 7, 15, 0, 32, 0, 224, 480, 1023] (by kernel_rfl) (by repeat (first | exact Reg.NoQ.body (fun _ _ h => h) (fun _ h => h) | exact Reg.NoQ.body (fun _ _ h => Ending.noConfusion h.1) (fun _ h => Ending.noConfusion h.1) | refine Reg.NoQ.then ?_ | refine Reg.NoQ.inBlock ?_)) ?_
        go_wp2_with fail
        exact ⟨⟨i + 1, by simp, by omega, hst.out, take_snoc_eq hHX.out hHY.out hT.out⟩, by simp [intOf]; omega⟩
      · have hne : Hid ((⟨La, Sa, ac, lf, br⟩ : TA) ≠ ⟨La, Sa, ac', lf', br'⟩) := fun e => ne_of_at hHX.out hHY.out hxy (congrArg TA.leaves e)
        have hor : x.letter ≠ y.letter ∨ x.letter = y.letter ∧ x.to ≠ y.to := by
          rcases x with ⟨x1, x2⟩; rcases y with ⟨y1, y2⟩
          simp only [Leaf.mk.injEq] at hxy
          simp only
          by_cases e : x1 = y1
          · exact Or.inr ⟨e, fun e' => hxy ⟨e, e'⟩⟩
          · exact Or.inl e
        clear hxy
        rcases hor with e | ⟨e, e'⟩
        all_goals
          go_wp2_with fail
          refine Reg.region_plain [0, 1, 0, 7, 15, 0, 32, 0, 224, 480, 1023] (by kernel_rfl) (by repeat (first | exact Reg.NoQ.body (fun _ _ h => h) (fun _ h => h) | exact Reg.NoQ.body (fun _ _ h => Ending.noConfusion h.1) (fun _ h => Ending.noConfusion h.1) | refine Reg.NoQ.then ?_ | refine Reg.NoQ.inBlock ?_)) ?_
          go_wp2_with fail
          go_ret
          exact ⟨congrArg Value.bool (decide_eq_false hne.out).symm, hb02.trans (hst.out.mono (by omega))⟩
    · have hLe : Hid (lf = lf') := take_all_eq hT.out (by have := HN2.out; omega) (by have := HM2.out; omega)
      go_wp2_with fail
      obtain ⟨wa, hwa⟩ : ∃ wa : World, wa = wr := ⟨_, rfl⟩
      go_loopw [6] (fun ii wr' => ∃ (i : Nat), ii = .int .i64 (i : Int) ∧ i ≤ n3 ∧ Below w2.heap.size w2 wr' ∧ Hid (br.take i = br'.take i)) (fun ii _ => n3 - (intOf ii).toNat)
      case atStart => exact ⟨0, rfl, Nat.zero_le _, hB, by show _ = _; simp⟩
      case round =>
        obtain ⟨i', rfl, hi', hB', hT'⟩ := hrel
        have hcs1 := (hB12.kept (Kept.of_below hB' (fun _ => False)) id).cell
        have hcs2 := (hB2.kept (Kept.of_below hB' (fun _ => False)) id).cell
        clear hcr1 hcr2
        by_cases hlt' : i' < n3
        · obtain ⟨b1, o1, x, rfl, hb1', hx, hc1⟩ := h3.at (k := i') (by have := HN3.out; omega)
          obtain ⟨b2, o2, y, rfl, hb2', hy, hc2⟩ := h6.at (k := i') (by have := HM3.out; omega)
          have hHX := hide hx
          have hHY := hide hy
          have e1 := fun j hj => (hB'.cell (by show b1 < _; omega)).trans ((hb02.cell (by exact hb1')).trans (hc1 j hj))
          have e2 := fun j hj => (hB'.cell (by show b2 < _; omega)).trans ((hb02.cell (by exact hb2')).trans (hc2 j hj))
          have e10 := e1 0 (by omega)
          have e11 := e1 1 (by omega)
          have e12 := e1 2 (by omega)
          have e13 := e1 3 (by omega)
          have e20 := e2 0 (by omega)
          have e21 := e2 1 (by omega)
          have e22 := e2 2 (by omega)
          have e23 := e2 3 (by omega)
          simp only [Nat.add_zero, encBr] at e10 e11 e12 e13 e20 e21 e22 e23
          have hst := hide (hB'.trans ((drew_below wr).mono hB'.size))
          clear hx hy hc1 hc2 e1 e2
          by_cases hxy : x = y
          · subst hxy
            go_wp2_with fail
            refine Reg.region_plain [0, 1, 0, 7, 15, 0, 32, 0, 224, 480, 1023] (by kernel_rfl) (by repeat (first | exact Reg.NoQ.body (fun _ _ h => h) (fun _ h => h) | exact Reg.NoQ.body (fun _ _ h => Ending.noConfusion h.1) (fun _ h => Ending.noConfusion h.1) | refine Reg.NoQ.then ?_ | refine Reg.NoQ.inBlock ?_)) ?_
            go_wp2_with fail
            exact ⟨⟨i' + 1, by simp, by omega, hst.out, take_snoc_eq hHX.out hHY.out hT'.out⟩, by simp [intOf]; omega⟩
          · have hne : Hid ((⟨La, Sa, ac, lf, br⟩ : TA) ≠ ⟨La, Sa, ac', lf', br'⟩) := fun e => ne_of_at hHX.out hHY.out hxy (congrArg TA.branches e)
            have hor : x.letter ≠ y.letter ∨ x.letter = y.letter ∧ (x.first ≠ y.first ∨ x.first = y.first ∧ (x.second ≠ y.second ∨ x.second = y.second ∧ x.to ≠ y.to)) := by
              rcases x with ⟨x1, x2, x3, x4⟩; rcases y with ⟨y1, y2, y3, y4⟩
              simp only [Branch.mk.injEq] at hxy
              simp only
              by_cases e : x1 = y1
              · refine Or.inr ⟨e, ?_⟩
                by_cases e2 : x2 = y2
                · refine Or.inr ⟨e2, ?_⟩
                  by_cases e3 : x3 = y3
                  · exact Or.inr ⟨e3, fun e4 => hxy ⟨e, e2, e3, e4⟩⟩
                  · exact Or.inl e3
                · exact Or.inl e2
              · exact Or.inl e
            clear hxy
            rcases hor with e | ⟨e, e' | ⟨e', e'' | ⟨e'', e3⟩⟩⟩
            all_goals
              go_wp2_with fail
              refine Reg.region_plain [0, 1, 0, 7, 15, 0, 32, 0, 224, 480, 1023] (by kernel_rfl) (by repeat (first | exact Reg.NoQ.body (fun _ _ h => h) (fun _ h => h) | exact Reg.NoQ.body (fun _ _ h => Ending.noConfusion h.1) (fun _ h => Ending.noConfusion h.1) | refine Reg.NoQ.then ?_ | refine Reg.NoQ.inBlock ?_)) ?_
              go_wp2_with fail
              go_ret
              exact ⟨congrArg Value.bool (decide_eq_false hne.out).symm, hb02.trans (hst.out.mono (by omega))⟩
        · have hBe : Hid (br = br') := take_all_eq hT'.out (by have := HN3.out; omega) (by have := HM3.out; omega)
          have hsw := hB'.size
          have hS1 := hide (((h1.below hb02).mono (show w.heap.size ≤ w2.heap.size by omega)).below hB')
          have hS4 := hide (((h4.below hb02).mono (show w.heap.size ≤ w2.heap.size by omega)).below hB')
          go_wp2_with (go_at_call 50; refine Calls.ret (sameInts_any hS1.out hS4.out (by omega) (by omega)) ?_; rintro v w9 ⟨rfl, hb⟩; have hb9 := hide hb; clear hb)
          go_ret
          refine ⟨congrArg Value.bool (decide_eq_decide.2 ?_), (hb02.trans (hB'.mono (by omega))).trans (hb9.out.mono (by omega))⟩
          have hq2 := hLe.out
          have hq3 := hBe.out
          constructor
          · intro e
            rw [hq2, hq3, e]
          · intro e
            exact congrArg TA.accept e
end Go.Proofs.Ytnimlcbgeiajiaa
