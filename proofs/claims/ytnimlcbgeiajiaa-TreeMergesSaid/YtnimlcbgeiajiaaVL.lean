/-
  TreeValidates: the walk of the law.
  Arguments that come in: an automaton by value reads as data; what a law leaves behind.
  TreeValidates: for every automaton, the program's Validate and the document's give the same error, and the program knows its small tree and automaton. No condition.
  A shape with labels that comes in.
-/
import Derived.ProofKit
import Derived.Deep.Slices
import Derived.Deep.Fields
import Derived.Test.YtnimlcbgeiajiaaQD
import Derived.Test.YtnimlcbgeiajiaaVE

namespace Go.Proofs.Ytnimlcbgeiajiaa
open Go.RowKit

set_option maxHeartbeats 4000000 in
set_option maxRecDepth 100000 in
theorem lawValidates (v : Value) (a : TA) (w : World) (h : IsTA w w.heap.size v a) :
    Calls Try.prog 3 #[v] w (Ret fun v w' => v = .bool true ∧ Below w.heap.size w w') := by
  obtain ⟨A1, c1, A2, c2, A3, c3, rfl, h1, h2, h3⟩ := h
  obtain ⟨w1, hw1, hb1, hB1, hk1⟩ := box_blk w #[.int .i64 a.letters, .int .i64 a.states, .slice A1 a.accept.length c1, .slice A2 a.leaves.length c2, .slice A3 a.branches.length c3] 26
  have hsz1 := hb1.size
  have hcb := hB1.cell
  have hT : IsTA w1 w1.heap.size (.agg #[.int .i64 a.letters, .int .i64 a.states, .slice A1 a.accept.length c1, .slice A2 a.leaves.length c2, .slice A3 a.branches.length c3]) a :=
    IsTA.keep ⟨A1, c1, A2, c2, A3, c3, rfl, h1, h2, h3⟩ (fun _ hp => hb1.cell hp) hsz1
  have hTT := hide hT
  clear hT h1 h2 h3
  go_enter Try.func3, Try.ntmps3
  go_wp2_with fail
  refine (Big_any _ a w1 hTT.out).mono ?_
  rintro e w2 ⟨rfl, hb2⟩
  have hb02 : Below w.heap.size w w2 := hb1.trans (hb2.mono hsz1)
  have hB2 := hB1.below hb2
  have hcb2 := hB2.cell
  have hsz2 := hb2.size
  cases hbig : a.big with
  | true =>
    go_wp2_with fail
    refine Calls.ret (known_any w2) ?_
    rintro v w3 ⟨rfl, hb3⟩
    have hb03 := hide (hb02.trans (hb3.mono (by omega)))
    clear hb3
    go_wp2_with fail
    go_ret
    exact ⟨rfl, hb03.out⟩
  | false =>
    have hT2 := hide (hTT.out.keep (fun _ hp => hb2.cell hp) hsz2)
    go_wp2_with fail
    refine Reg.region_cut [0, 1, 0, 7, 15, 31, 63, 127, 255] [0, 2, 1, 3, 4, 5, 6, 7, 8] (by kernel_rfl) (by repeat (first | exact Reg.NoQ.body (fun _ _ h => h) (fun _ h => h) | refine Reg.NoQ.then ?_ | refine Reg.NoQ.inBlock ?_)) ?_
    refine Reg.rest_walk' [0, 2] [1, 3, 4, 5, 6, 7, 8] rfl (by kernel_rfl) ?_
    intro Qf hQf
    go_wp2_with fail
    rw [List.filterMap_nil]
    go_wp2_with fail
    refine Reg.rest_act' 1 [3, 4, 5, 6, 7, 8] [2] rfl (by kernel_rfl) ?_
    intro Qf hQf
    simp only [List.getElem_toArray, List.getElem_cons_succ, List.getElem_cons_zero]
    have hT3 := hide (hT2.out.below (drew_below w2))
    go_wp2_with (go_at_call 18; refine (validate_any _ a w2.drew hT3.out).mono ?_; rintro e w3 ⟨rfl, hb3⟩)
    refine ⟨Reg.same_below hb3 [2] rfl, ?_⟩
    have hb23 : Below w2.heap.size w2 w3 := (drew_below w2).trans hb3
    have hT4 := hide ((hTT.out.keep (fun _ hp => hb2.cell hp) hsz2).keep (fun _ hp => hb23.cell hp) hb23.size)
    have hb03 := hb02.trans (hb23.mono (by omega))
    have hsz3 := hb23.size
    refine Reg.rest_act' 3 [4, 5, 6, 7, 8] [] rfl (by kernel_rfl) ?_
    intro Qf hQf
    simp only [List.getElem_toArray, List.getElem_cons_succ, List.getElem_cons_zero]
    go_wp2_with (go_at_call 19; refine (refValidate_any _ a w3 hT4.out).mono ?_; rintro e w4 ⟨rfl, hb4⟩)
    refine ⟨fun r hr => absurd hr (List.not_mem_nil), ?_⟩
    have hb04 := hb03.trans (hb4.mono (by omega))
    have hsz4 := hb4.size
    generalize errno a.valid = er at *
    have heq : (er == er) = true := by simp
    refine Reg.rest_walk' [4, 5] [6, 7, 8] rfl (by kernel_rfl) ?_
    intro Qf hQf
    go_wp2_with fail
    rw [List.filterMap_nil]
    go_wp2_with fail
    refine Reg.rest_act' 6 [7, 8] [] rfl (by kernel_rfl) ?_
    intro Qf hQf
    simp only [List.getElem_toArray, List.getElem_cons_succ, List.getElem_cons_zero]
    go_wp2_with (go_at_call 17; refine Calls.ret (known_any w4) ?_; rintro v w5 ⟨rfl, hb5⟩)
    refine ⟨fun r hr => absurd hr (List.not_mem_nil), ?_⟩
    have hb05 := hide (hb04.trans (hb5.mono (by omega)))
    refine Reg.rest_walk' [7, 8] [] rfl (by kernel_rfl) ?_
    intro Qf hQf
    go_wp2_with fail
    rw [List.filterMap_nil]
    go_wp2_with fail
    refine Reg.rest_end ?_
    go_wp2_with fail
    go_ret
    exact ⟨rfl, hb05.out⟩
end Go.Proofs.Ytnimlcbgeiajiaa

namespace Go.Proofs.Ytnimlcbgeiajiaa
open Go.RowKit Go.ChangeShapes Go.WideShapes Go.Deep

section
variable {H : Type} {enc : TypeId × Value → H} {P : Program} {w : World} {base : Nat} {spare : Nat → Bool} {held : Bool}
theorem cell_lt {w : World} {a : Addr} {v : Value} (h : w.cell? a = some v) : a.block < w.heap.size := by
  unfold World.cell? at h
  split at h
  · rename_i hh
    exact (Array.getElem?_eq_some_iff.1 hh).1
  · cases h
theorem add_plain_ (b off i : Nat) : (⟨b, off, none⟩ : Addr).add i = ⟨b, off + i, none⟩ := by
  unfold Addr.add
  split <;> simp_all
/-- A list whose elements are chosen one by one. -/
theorem choose_list {D : Type} {p : Nat → D → Prop} : ∀ n : Nat, (∀ i, i < n → ∃ d, p i d) → ∃ l : List D, l.length = n ∧ ∀ (i : Nat) (d : D), l[i]? = some d → p i d
  | 0, _ => ⟨[], rfl, fun i d h => by simp at h⟩
  | n + 1, h => by
    obtain ⟨l, hl, hp⟩ := choose_list n fun i hi => h i (by omega)
    obtain ⟨d, hd⟩ := h n (by omega)
    refine ⟨l ++ [d], by simp [hl], fun i x hx => ?_⟩
    by_cases hi : i < l.length
    · rw [List.getElem?_append_left hi] at hx
      exact hp i x hx
    · have h1 := lt_of_get hx
      simp at h1
      obtain rfl : i = l.length := by omega
      simp at hx
      subst hx
      rw [hl]
      exact hd
/-- A slice whose elements are known cell by cell. -/
theorem sl_of {D : Type} {sz : Nat} {enc : D → Nat → Value} {a : Addr} {len : Nat} (hs : 0 < sz) (hlen : len ≤ 9223372036854775807) (h : ∀ i, i < len → ∃ d : D, ∀ j, j < sz → w.cell? (a.add (i * sz + j)) = some (enc d j)) :
    ∃ ds : List D, ds.length = len ∧ Sl w w.heap.size sz enc (some a) ds := by
  obtain ⟨ds, hl, hd⟩ := choose_list len h
  refine ⟨ds, hl, by omega, fun hne => ?_⟩
  obtain ⟨b, off, spot⟩ := a
  obtain ⟨d0, hd0⟩ := get_lt (l := ds) (i := 0) (by cases ds; exact absurd rfl hne; simp)
  have h0 := hd 0 d0 hd0 0 hs
  have hspot : spot = none := by simpa [Addr.add] using World.cell?_spot h0
  subst hspot
  have hb := cell_lt h0
  rw [add_plain_] at hb
  refine ⟨b, off, rfl, hb, fun k d hk j hj => ?_⟩
  have := hd k d hk j hj
  rw [add_plain_] at this
  rw [Nat.add_assoc]
  exact this
end

section
variable {H : Type} {enc : TypeId × Value → H} {w : World} {base : Nat} {spare : Nat → Bool} {held : Bool}
theorem intAt {cs : List Value} {n i : Nat} {x : Option (DataW H × List MemPlace)} (h : DataW.trod enc Try.prog w base spare held n 3 ((cs.drop i).take 1) = x) (hx : x.isSome = true) : ∃ z : Int, cs[i]? = some (.int .i64 z) := by
  obtain ⟨y, rfl⟩ := Option.isSome_iff_exists.1 hx
  obtain ⟨z, hz, _⟩ := DataW.trod_int Try.underlying3 h
  refine ⟨z, ?_⟩
  have h1 : ((cs.drop i).take 1)[0]? = some (.int .i64 z) := by rw [hz]; rfl
  rw [List.getElem?_take] at h1
  simpa using h1
theorem ints_in {fuel : Nat} {v : Value} {x : DataW H × List MemPlace} (h : DataW.trod enc Try.prog w base spare held fuel 22 [v] = some x) : ∃ A c, ∃ xs : List Int, v = .slice A xs.length c ∧ Sl w w.heap.size 1 encI A xs := by
  rcases open_ints Try.underlying22 Try.underlying3 (by kernel_rfl) h with ⟨h1, -⟩ | ⟨a, len, cap, zs, h1, -, hlc, hcm, hzl, -, hc, -⟩
  · injection h1 with h1 _
    subst h1
    exact ⟨none, 0, [], rfl, Sl.nil rfl⟩
  · injection h1 with h1 _
    subst h1
    have hle : len ≤ zs.length := by rw [hzl]; split <;> omega
    obtain ⟨ds, hl, hs⟩ := sl_of (w := w) (enc := encI) (a := a) (len := len) (sz := 1) (by omega) (by unfold maxLen at hcm; omega) (fun i hi => ⟨zs.getD i 0, fun j hj => by
      have : j = 0 := by omega
      subst this
      rw [Nat.mul_one, Nat.add_zero]
      exact hc i (by omega)⟩)
    exact ⟨some a, cap, ds, by rw [hl], hs⟩
theorem leaves_in {fuel : Nat} {v : Value} {x : DataW H × List MemPlace} (h : DataW.trod enc Try.prog w base spare held fuel 23 [v] = some x) : ∃ A c, ∃ xs : List Leaf, v = .slice A xs.length c ∧ Sl w w.heap.size 2 encL A xs := by
  rcases open_slice Try.underlying23 h with ⟨h1, -⟩ | ⟨a, len, cap, m, n, D, Pl, h1, -, hlc, hcm, hm, -, hc⟩
  · injection h1 with h1 _
    subst h1
    exact ⟨none, 0, [], rfl, Sl.nil rfl⟩
  · injection h1 with h1 _
    subst h1
    have hC : Try.prog.cellsOf 36 = 2 := by kernel_rfl
    rw [hC] at hc
    have hle : len ≤ m := by rw [hm]; split <;> omega
    obtain ⟨ds, hl, hs⟩ := sl_of (w := w) (enc := encL) (a := a) (len := len) (sz := 2) (by omega) (by unfold maxLen at hcm; omega) (fun i hi => by
      obtain ⟨cs, hcs, ht⟩ := hc i (by omega)
      obtain ⟨_, hlen, hcell⟩ := World.cells?_some hcs
      obtain ⟨xs, n', _, _, _, hxl, hf⟩ := DataW.trod_struct Try.underlying36 ht
      have hxs : ∀ k, k < 2 → (xs[k]?).isSome = true := fun k hk => by
        have : xs.length = 2 := hxl
        rw [List.getElem?_eq_getElem (by omega)]
        rfl
      have h3 : Try.prog.cellsOf 3 = 1 := by kernel_rfl
      have f0 : DataW.trod enc Try.prog w base spare held n' 3 ((cs.drop 0).take (Try.prog.cellsOf 3)) = xs[0]? := hf 0 _ rfl
      have f1 : DataW.trod enc Try.prog w base spare held n' 3 ((cs.drop 1).take (Try.prog.cellsOf 3)) = xs[1]? := hf 1 _ rfl
      rw [h3] at f0 f1
      obtain ⟨z0, e0⟩ := intAt f0 (hxs 0 (by omega))
      obtain ⟨z1, e1⟩ := intAt f1 (hxs 1 (by omega))
      refine ⟨⟨z0, z1⟩, fun j hj => ?_⟩
      have g := hcell j hj
      have hadd : (a.add (i * 2)).add j = a.add (i * 2 + j) := Go.Deep.add_add ..
      rw [hadd] at g
      rw [g]
      match j, hj with
      | 0, _ => exact e0
      | 1, _ => exact e1)
    exact ⟨some a, cap, ds, by rw [hl], hs⟩
theorem branches_in {fuel : Nat} {v : Value} {x : DataW H × List MemPlace} (h : DataW.trod enc Try.prog w base spare held fuel 24 [v] = some x) : ∃ A c, ∃ xs : List Branch, v = .slice A xs.length c ∧ Sl w w.heap.size 4 encBr A xs := by
  rcases open_slice Try.underlying24 h with ⟨h1, -⟩ | ⟨a, len, cap, m, n, D, Pl, h1, -, hlc, hcm, hm, -, hc⟩
  · injection h1 with h1 _
    subst h1
    exact ⟨none, 0, [], rfl, Sl.nil rfl⟩
  · injection h1 with h1 _
    subst h1
    have hC : Try.prog.cellsOf 59 = 4 := by kernel_rfl
    rw [hC] at hc
    have hle : len ≤ m := by rw [hm]; split <;> omega
    obtain ⟨ds, hl, hs⟩ := sl_of (w := w) (enc := encBr) (a := a) (len := len) (sz := 4) (by omega) (by unfold maxLen at hcm; omega) (fun i hi => by
      obtain ⟨cs, hcs, ht⟩ := hc i (by omega)
      obtain ⟨_, hlen, hcell⟩ := World.cells?_some hcs
      obtain ⟨xs, n', _, _, _, hxl, hf⟩ := DataW.trod_struct Try.underlying59 ht
      have hxs : ∀ k, k < 4 → (xs[k]?).isSome = true := fun k hk => by
        have : xs.length = 4 := hxl
        rw [List.getElem?_eq_getElem (by omega)]
        rfl
      have h3 : Try.prog.cellsOf 3 = 1 := by kernel_rfl
      have f0 : DataW.trod enc Try.prog w base spare held n' 3 ((cs.drop 0).take (Try.prog.cellsOf 3)) = xs[0]? := hf 0 _ rfl
      have f1 : DataW.trod enc Try.prog w base spare held n' 3 ((cs.drop 1).take (Try.prog.cellsOf 3)) = xs[1]? := hf 1 _ rfl
      have f2 : DataW.trod enc Try.prog w base spare held n' 3 ((cs.drop 2).take (Try.prog.cellsOf 3)) = xs[2]? := hf 2 _ rfl
      have f3 : DataW.trod enc Try.prog w base spare held n' 3 ((cs.drop 3).take (Try.prog.cellsOf 3)) = xs[3]? := hf 3 _ rfl
      rw [h3] at f0 f1 f2 f3
      obtain ⟨z0, e0⟩ := intAt f0 (hxs 0 (by omega))
      obtain ⟨z1, e1⟩ := intAt f1 (hxs 1 (by omega))
      obtain ⟨z2, e2⟩ := intAt f2 (hxs 2 (by omega))
      obtain ⟨z3, e3⟩ := intAt f3 (hxs 3 (by omega))
      refine ⟨⟨z0, z1, z2, z3⟩, fun j hj => ?_⟩
      have g := hcell j hj
      have hadd : (a.add (i * 4)).add j = a.add (i * 4 + j) := Go.Deep.add_add ..
      rw [hadd] at g
      rw [g]
      match j, hj with
      | 0, _ => exact e0
      | 1, _ => exact e1
      | 2, _ => exact e2
      | 3, _ => exact e3)
    exact ⟨some a, cap, ds, by rw [hl], hs⟩
set_option maxRecDepth 100000 in
/-- An automaton that comes in. -/
theorem ta_in {r : Go.Reach} {b0 : Nat} {v : Value} {d : DataW H} {p : List MemPlace} (hv : Value.okWide Try.prog w r b0 26 v) (h : DataW.Trod enc Try.prog w base spare held 26 v d p) : ∃ a : TA, IsTA w w.heap.size v a := by
  obtain ⟨cs, rfl, hsz⟩ := okWide_struct Try.underlying26 hv
  obtain ⟨l⟩ := cs
  have hC : Try.prog.cellsOf 26 = 5 := by kernel_rfl
  match l, hsz.trans hC with
  | [c0, c1, c2, c3, c4], _ =>
    obtain ⟨fuel, hf⟩ := h
    obtain ⟨xs, n, _, _, _, hxl, hg⟩ := DataW.trod_struct Try.underlying26 hf
    have hxs : ∀ k, k < 5 → ∃ y, xs[k]? = some y := fun k hk => get_lt (by have : xs.length = 5 := hxl; omega)
    have h3 : Try.prog.cellsOf 3 = 1 := by kernel_rfl
    have h22 : Try.prog.cellsOf 22 = 1 := by kernel_rfl
    have h23 : Try.prog.cellsOf 23 = 1 := by kernel_rfl
    have h24 : Try.prog.cellsOf 24 = 1 := by kernel_rfl
    have g0 : DataW.trod enc Try.prog w base spare held n 3 (([c0, c1, c2, c3, c4].drop 0).take (Try.prog.cellsOf 3)) = xs[0]? := hg 0 _ rfl
    have g1 : DataW.trod enc Try.prog w base spare held n 3 (([c0, c1, c2, c3, c4].drop 1).take (Try.prog.cellsOf 3)) = xs[1]? := hg 1 _ rfl
    have g2 : DataW.trod enc Try.prog w base spare held n 22 (([c0, c1, c2, c3, c4].drop 2).take (Try.prog.cellsOf 22)) = xs[2]? := hg 2 _ rfl
    have g3 : DataW.trod enc Try.prog w base spare held n 23 (([c0, c1, c2, c3, c4].drop 3).take (Try.prog.cellsOf 23)) = xs[3]? := hg 3 _ rfl
    have g4 : DataW.trod enc Try.prog w base spare held n 24 (([c0, c1, c2, c3, c4].drop 4).take (Try.prog.cellsOf 24)) = xs[4]? := hg 4 _ rfl
    rw [h3] at g0 g1
    rw [h22] at g2
    rw [h23] at g3
    rw [h24] at g4
    obtain ⟨y2, e2⟩ := hxs 2 (by omega)
    obtain ⟨y3, e3⟩ := hxs 3 (by omega)
    obtain ⟨y4, e4⟩ := hxs 4 (by omega)
    obtain ⟨z0, q0⟩ := intAt g0 (by obtain ⟨y, e⟩ := hxs 0 (by omega); rw [e]; rfl)
    obtain ⟨z1, q1⟩ := intAt g1 (by obtain ⟨y, e⟩ := hxs 1 (by omega); rw [e]; rfl)
    rw [e2] at g2
    rw [e3] at g3
    rw [e4] at g4
    have q0' : c0 = .int .i64 z0 := by simpa using q0
    have q1' : c1 = .int .i64 z1 := by simpa using q1
    obtain ⟨A2, d2, xs2, rfl, s2⟩ := ints_in (v := c2) g2
    obtain ⟨A3, d3, xs3, rfl, s3⟩ := leaves_in (v := c3) g3
    obtain ⟨A4, d4, xs4, rfl, s4⟩ := branches_in (v := c4) g4
    subst q0' q1'
    exact ⟨⟨z0, z1, xs2, xs3, xs4⟩, A2, d2, A3, d3, A4, d4, rfl, s2, s3, s4⟩
end
end Go.Proofs.Ytnimlcbgeiajiaa

namespace Go.Proofs.Ytnimlcbgeiajiaa
open Go.RowKit Go.ChangeShapes Go.WideShapes Go.ChangeAt

theorem knob : ownKnob Try.prog.godebug = none := by kernel_rfl
theorem laid_out : laidOutB Try.prog = true := by kernel_rfl

section
variable {H : Type} {enc : TypeId × Value → H} {P : Program}
/-- What a law leaves behind that made memory alone: its arguments read as they did. -/
theorem law_post {f : Func} {s : ChangeSpec} {apart fresh handsOn again : Bool} {W W' : World} {args : Array Value} {v : Value} {ds : List (DataW H)} {before : List MemPlace} (hvars : s.vars = [])
    (hW : DataW.Whole enc P f.params.toList s.vars apart W args.toList ds [] before)
    (hres : ∀ (b : Nat) (sp : Nat → Bool) (hd : Bool), DataW.TrodAll enc P W' b sp hd f.resultTypes.toList (v.resultList f.resultTypes.size) (s.fn H (ds ++ [])).results [])
    (hargs : ∀ sp : Nat → Bool, (∀ p ∈ before, sp p.block = true) → DataW.TrodAll enc P W' 0 sp true f.params.toList args.toList (s.fn H (ds ++ [])).args before) (hsv : (s.fn H (ds ++ [])).vars = [])
    (hb : Below W.heap.size W W')
    (hok : ∀ (j : Nat) (t : TypeId) (r : Value), f.resultTypes[j]? = some t → (v.resultList f.resultTypes.size)[j]? = some r → Value.okWide P W' .any 0 t r) :
    s.post enc P f apart fresh handsOn again W args v W' := by
  have hlt : ∀ p ∈ before, p.block < W.heap.size := fun p hp => hW.lt p hp
  have hold : ∀ p ∈ before, (fun b => decide (b < W.heap.size)) p.block = true := fun p hp => by simpa using hlt p hp
  have hvs : ∀ sp : Nat → Bool, DataW.TrodVars enc P W' sp s.vars (s.fn H (ds ++ [])).vars [] := fun sp => by rw [hvars, hsv]; rfl
  refine ⟨ds, [], before, [], before, [], hW, hres _ _ _, hargs _ hold, hvs _, World.keptBut_mono (fun p hp => ⟨hp, ?_⟩) (hb.frame (· ∈ before)), fun _ => ?_⟩
  · exact Or.inr (Or.inl hp)
  · obtain ⟨_, _, _, _, _, hz, hn⟩ := hW
    refine ⟨hok, _, _, ([] ++ before) ++ [], ⟨[] ++ before, [], trodAll_append (hargs _ (fun _ _ => rfl)) (hres _ _ _), hvs _, rfl, ?_, ?_⟩, ?_⟩
    · intro b off hp
      have hin : MemPlace.cell b off ∈ before := by simpa using hp
      rw [hb.frozen (hlt _ hin)]
      exact hz b off hin
    · intro ha
      simpa using hn ha
    · intro p hp _
      simpa using hp
end

set_option maxRecDepth 100000 in
theorem tv_lifted (os : Os) (started : os.Started) (H : Type) (enc : TypeId × Value → H) :
    ReturnsInHanded {} Try.checked os 3 .any (Rows.treeValidatesSpec.pre6 enc Try.prog Try.f3 Rows.treeValidatesRow.domain false) (Rows.treeValidatesSpec.post enc Try.prog Try.f3 false true false false) := by
  refine returnsInHanded_of_change (C := Try.checked) knob started (by kernel_rfl) Try.func3
    (ChangeSpec.witness6 (enc := enc) (C := Try.checked) false ⟨#[], #[.agg #[.int .i64 0, .int .i64 0, .slice none 0 0, .slice none 0 0, .slice none 0 0]], []⟩ 8 (by kernel_rfl) (by kernel_rfl) (by kernel_rfl) (by kernel_rfl)) ?_
  intro W base args ds gs before hval0 hW hcnd _
  have hval : ∀ (j : Nat) t v, Try.f3.params[j]? = some t → args[j]? = some v → Value.okWide Try.prog W .any base t v := hval0
  have hW' := hW
  obtain ⟨p, q, hA0, hV, rfl, hfz, hnd⟩ := hW
  have hA : DataW.TrodAll enc Try.prog W 0 (fun _ => true) true Try.f3.params.toList args.toList ds p := hA0
  rw [Try.params3] at hA hval
  obtain ⟨v0, d0, rfl, rfl, h0⟩ := trodAll_one hA
  obtain ⟨rfl, rfl⟩ := trodVars_none hV
  obtain ⟨a, ha⟩ := ta_in (hval 0 26 v0 rfl rfl) h0
  simp only [List.append_nil] at hW'
  have hlt := hW'.lt
  refine Calls.ret (lawValidates v0 a W ha) fun v W' ⟨hv, hb⟩ => ?_
  subst hv
  exact ⟨_, rfl, law_post rfl hW' (fun _ _ _ => trodAll_mk1 (shut_bool Try.underlying4 _)) (fun sp hsp => by
    rw [Try.params3]
    exact trodAll_mk1 (WideElems.Trod_stays laid_out (by kernel_rfl) (of_decide_eq_true (by kernel_rfl)) h0 (fun x hx => hb.same (hlt x hx)) hsp)) rfl hb (ok_one (by kernel_rfl) rfl (okWide_bool_mk Try.underlying4 _))⟩

theorem treeValidates_holds : Rows.TreeValidatesSaid :=
  OpenClaim.holds_of_wide 3 Try.f3 rfl rfl rfl rfl rfl rfl rfl ⟨rfl, rfl, rfl, rfl, rfl⟩ rfl rfl rfl rfl rfl (by kernel_rfl) Try.func3 (by kernel_rfl)
    (of_decide_eq_true (by kernel_rfl)) (by unfold Func.isWrapper; first | (rw [if_pos (by decide +kernel)]; kernel_rfl) | (rw [if_neg (by decide +kernel)]; exact ⟨rfl, rfl⟩))
    (fun os started H enc _ => tv_lifted os started H enc)
#print axioms treeValidates_holds
end Go.Proofs.Ytnimlcbgeiajiaa

namespace Go.Proofs.Ytnimlcbgeiajiaa
open Go.RowKit Go.ChangeShapes Go.WideShapes Go.ChangeAt

section
variable {H : Type} {enc : TypeId × Value → H} {w : World} {base : Nat} {spare : Nat → Bool} {held : Bool}
set_option maxRecDepth 100000 in
/-- A shape with labels that comes in. -/
theorem tree_in {r : Go.Reach} {b0 : Nat} {v : Value} {d : DataW H} {p : List MemPlace} (hv : Value.okWide Try.prog w r b0 40 v) (h : DataW.Trod enc Try.prog w base spare held 40 v d p) :
    ∃ A1 c1 A2 c2, ∃ sh lb : List Int, v = .agg #[.slice A1 sh.length c1, .slice A2 lb.length c2] ∧ Sl w w.heap.size 1 encI A1 sh ∧ Sl w w.heap.size 1 encI A2 lb := by
  obtain ⟨cs, rfl, hsz⟩ := okWide_struct Try.underlying40 hv
  obtain ⟨l⟩ := cs
  have hC : Try.prog.cellsOf 40 = 2 := by kernel_rfl
  match l, hsz.trans hC with
  | [c0, c1], _ =>
    obtain ⟨fuel, hf⟩ := h
    obtain ⟨xs, n, _, _, _, hxl, hg⟩ := DataW.trod_struct Try.underlying40 hf
    have hxs : ∀ k, k < 2 → ∃ y, xs[k]? = some y := fun k hk => get_lt (by have : xs.length = 2 := hxl; omega)
    have h22 : Try.prog.cellsOf 22 = 1 := by kernel_rfl
    have g0 : DataW.trod enc Try.prog w base spare held n 22 (([c0, c1].drop 0).take (Try.prog.cellsOf 22)) = xs[0]? := hg 0 _ rfl
    have g1 : DataW.trod enc Try.prog w base spare held n 22 (([c0, c1].drop 1).take (Try.prog.cellsOf 22)) = xs[1]? := hg 1 _ rfl
    rw [h22] at g0 g1
    obtain ⟨y0, e0⟩ := hxs 0 (by omega)
    obtain ⟨y1, e1⟩ := hxs 1 (by omega)
    rw [e0] at g0
    rw [e1] at g1
    obtain ⟨A0, d0, xs0, rfl, s0⟩ := ints_in (v := c0) g0
    obtain ⟨A1, d1, xs1, rfl, s1⟩ := ints_in (v := c1) g1
    exact ⟨A0, d0, A1, d1, xs0, xs1, rfl, s0, s1⟩
end

end Go.Proofs.Ytnimlcbgeiajiaa
