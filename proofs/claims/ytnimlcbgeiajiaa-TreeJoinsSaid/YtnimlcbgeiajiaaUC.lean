/-
  A list of automata that comes in.
  TreeJoins: for every list of automata, Union of the program and of the document return the same automaton and the same error, and Intersect too. No condition.
-/
import Derived.Test.YtnimlcbgeiajiaaQL
import Derived.Test.YtnimlcbgeiajiaaSV
import Derived.Test.YtnimlcbgeiajiaaUB

namespace Go.Proofs.Ytnimlcbgeiajiaa
open Go.RowKit Go.ChangeShapes Go.WideShapes Go.Deep

section
variable {H : Type} {enc : TypeId × Value → H} {w : World} {base : Nat} {spare : Nat → Bool} {held : Bool}
set_option maxRecDepth 100000 in
theorem ta_cells {fuel : Nat} {cs : List Value} {x : DataW H × List MemPlace} (hl : cs.length = 5) (h : DataW.trod enc Try.prog w base spare held fuel 26 cs = some x) :
    ∃ (a : TA) (A1 : Option Addr) (c1 : Nat) (A2 : Option Addr) (c2 : Nat) (A3 : Option Addr) (c3 : Nat), cs = [.int .i64 a.letters, .int .i64 a.states, .slice A1 a.accept.length c1, .slice A2 a.leaves.length c2, .slice A3 a.branches.length c3] ∧
      Sl w w.heap.size 1 encI A1 a.accept ∧ Sl w w.heap.size 2 encL A2 a.leaves ∧ Sl w w.heap.size 4 encBr A3 a.branches := by
  match cs, hl with
  | [c0, c1, c2, c3, c4], _ =>
    obtain ⟨xs, n, _, _, _, hxl, hg⟩ := DataW.trod_struct Try.underlying26 h
    have hxs : ∀ k, k < 5 → ∃ y, xs[k]? = some y := fun k hk => get_lt (by have : xs.length = 5 := hxl; omega)
    have h3 : Try.prog.cellsOf 3 = 1 := by kernel_rfl
    have h22 : Try.prog.cellsOf 22 = 1 := by kernel_rfl
    have h23 : Try.prog.cellsOf 23 = 1 := by kernel_rfl
    have h24 : Try.prog.cellsOf 24 = 1 := by kernel_rfl
    have g0 : DataW.trod enc Try.prog w base spare held n 3 (([c0, c1, c2, c3, c4].drop 0).take (Try.prog.cellsOf 3)) = xs[0]? := hg 0 _ rfl
    have g1 : DataW.trod enc Try.prog w base spare held n 3 (([c0, c1, c2, c3, c4].drop 1).take (Try.prog.cellsOf 3)) = xs[1]? := hg 1 _ rfl
    have g2 : DataW.trod enc Try.prog w base spare held n 22 (([c0, c1, c2, c3, c4].drop 2).take (Try.prog.cellsOf 22)) = xs[2]? := hg 2 _ rfl
    have g3 : DataW.trod enc Try.prog w base spare held n 23 (([c0, c1, c2, c3, c4].drop 3).take (Try.prog.cellsOf 23)) = xs[3]? := hg 3 _ rfl
    have g4 : DataW.trod enc Try.prog w base spare held n 24 (([c0, c1, c2, c3, c4].drop 4).take (Try.prog.cellsOf 24)) = xs[4]? := hg 4 _ rfl
    rw [h3] at g0 g1
    rw [h22] at g2
    rw [h23] at g3
    rw [h24] at g4
    obtain ⟨y2, e2⟩ := hxs 2 (by omega)
    obtain ⟨y3, e3⟩ := hxs 3 (by omega)
    obtain ⟨y4, e4⟩ := hxs 4 (by omega)
    obtain ⟨z0, q0⟩ := intAt g0 (by obtain ⟨y, e⟩ := hxs 0 (by omega); rw [e]; rfl)
    obtain ⟨z1, q1⟩ := intAt g1 (by obtain ⟨y, e⟩ := hxs 1 (by omega); rw [e]; rfl)
    rw [e2] at g2
    rw [e3] at g3
    rw [e4] at g4
    have q0' : c0 = .int .i64 z0 := by simpa using q0
    have q1' : c1 = .int .i64 z1 := by simpa using q1
    obtain ⟨A2, d2, xs2, rfl, s2⟩ := ints_in (v := c2) g2
    obtain ⟨A3, d3, xs3, rfl, s3⟩ := leaves_in (v := c3) g3
    obtain ⟨A4, d4, xs4, rfl, s4⟩ := branches_in (v := c4) g4
    subst q0' q1'
    exact ⟨⟨z0, z1, xs2, xs3, xs4⟩, A2, d2, A3, d3, A4, d4, rfl, s2, s3, s4⟩

set_option maxRecDepth 100000 in
/-- A list of automata that comes in. -/
theorem tas_in {r : Go.Reach} {b0 : Nat} {v : Value} {d : DataW H} {p : List MemPlace} (hv : Value.okWide Try.prog w r b0 49 v) (h : DataW.Trod enc Try.prog w base spare held 49 v d p) :
    ∃ (A : Option Addr) (c : Nat) (l : List TA), v = .slice A l.length c ∧ TAs w w.heap.size A l := by
  obtain ⟨A, len, cap, rfl⟩ := okWide_slice Try.underlying49 hv
  obtain ⟨fuel, hf⟩ := h
  rcases open_slice Try.underlying49 hf with ⟨h1, -⟩ | ⟨a, len, cap, m, n, D, Pl, h1, -, hlc, hcm, hm, -, hc⟩
  · have h1' : [Value.slice A len cap] = [.slice none 0 0] := h1
    injection h1' with h1' _
    rw [h1']
    exact ⟨none, 0, [], rfl, by simp, fun h => absurd rfl h⟩
  · have h1' := (show [Value.slice A _ _] = [.slice (some a) len cap] from h1)
    injection h1' with h1' _
    rw [h1']
    have hC : Try.prog.cellsOf 26 = 5 := by kernel_rfl
    rw [hC] at hc
    have hle : len ≤ m := by rw [hm]; split <;> omega
    obtain ⟨l, hl, hp⟩ := choose_list (p := fun (i : Nat) (t : TA) => ∃ A1 c1 A2 c2 A3 c3, (∀ j, j < 5 → w.cell? (a.add (i * 5 + j)) = [Value.int .i64 t.letters, .int .i64 t.states, .slice A1 t.accept.length c1, .slice A2 t.leaves.length c2, .slice A3 t.branches.length c3][j]?) ∧
      Sl w w.heap.size 1 encI A1 t.accept ∧ Sl w w.heap.size 2 encL A2 t.leaves ∧ Sl w w.heap.size 4 encBr A3 t.branches) len (fun i hi => by
      obtain ⟨cs, hcs, ht⟩ := hc i (by omega)
      obtain ⟨_, hlen, hcell⟩ := World.cells?_some hcs
      obtain ⟨t, A1, c1, A2, c2, A3, c3, rfl, s1, s2, s3⟩ := ta_cells hlen ht
      refine ⟨t, A1, c1, A2, c2, A3, c3, fun j hj => ?_, s1, s2, s3⟩
      have g := hcell j hj
      have hadd : (a.add (i * 5)).add j = a.add (i * 5 + j) := Go.Deep.add_add ..
      rw [hadd] at g
      exact g)
    refine ⟨some a, cap, l, by rw [hl], by unfold maxLen at hcm; omega, fun hne => ?_⟩
    obtain ⟨b, off, spot⟩ := a
    obtain ⟨t0, ht0⟩ := get_lt (l := l) (i := 0) (by cases l; exact absurd rfl hne; simp)
    obtain ⟨_, _, _, _, _, _, q0, -⟩ := hp 0 t0 ht0
    have q00 := q0 0 (by omega)
    have hspot : spot = none := by simpa [Addr.add] using World.cell?_spot q00
    subst hspot
    have hb := cell_lt q00
    rw [add_plain_] at hb
    refine ⟨b, off, rfl, hb, fun k t hk => ?_⟩
    obtain ⟨A1, c1, A2, c2, A3, c3, q, s1, s2, s3⟩ := hp k t hk
    have q' : ∀ j, j < 5 → w.cell? ⟨b, off + k * 5 + j, none⟩ = [Value.int .i64 t.letters, .int .i64 t.states, .slice A1 t.accept.length c1, .slice A2 t.leaves.length c2, .slice A3 t.branches.length c3][j]? := fun j hj => by
      have := q j hj
      rw [add_plain_, ← Nat.add_assoc] at this
      exact this
    exact ⟨A1, c1, A2, c2, A3, c3, q' 0 (by omega), q' 1 (by omega), q' 2 (by omega), q' 3 (by omega), q' 4 (by omega), s1, s2, s3⟩
end
end Go.Proofs.Ytnimlcbgeiajiaa

namespace Go.Proofs.Ytnimlcbgeiajiaa
open Go.RowKit Go.ChangeShapes Go.WideShapes Go.ChangeAt

set_option maxRecDepth 100000 in
theorem treeJoins_lifted (os : Os) (started : os.Started) (H : Type) (enc : TypeId × Value → H) :
    ReturnsInHanded {} Try.checked os 10 .any (Rows.treeJoinsSpec.pre6 enc Try.prog Try.f10 Rows.treeJoinsRow.domain false) (Rows.treeJoinsSpec.post enc Try.prog Try.f10 false true false false) := by
  refine returnsInHanded_of_change (C := Try.checked) knob started (by kernel_rfl) Try.func10
    (ChangeSpec.witness6 (enc := enc) (C := Try.checked) false ⟨#[], #[.slice none 0 0], []⟩ 8 (by kernel_rfl) (by kernel_rfl) (by kernel_rfl) (by kernel_rfl)) ?_
  intro W base args ds gs before hval0 hW hcnd _
  have hval : ∀ (j : Nat) t v, Try.f10.params[j]? = some t → args[j]? = some v → Value.okWide Try.prog W .any base t v := hval0
  have hW' := hW
  obtain ⟨p, q, hA0, hV, rfl, hfz, hnd⟩ := hW
  have hA : DataW.TrodAll enc Try.prog W 0 (fun _ => true) true Try.f10.params.toList args.toList ds p := hA0
  rw [Try.params10] at hA hval
  obtain ⟨v0, d0, rfl, rfl, h0⟩ := trodAll_one hA
  obtain ⟨rfl, rfl⟩ := trodVars_none hV
  obtain ⟨A1, c1, l, rfl, ha⟩ := tas_in (hval 0 49 v0 rfl rfl) h0
  simp only [List.append_nil] at hW'
  have hlt := hW'.lt
  refine Calls.ret (lawJoins ha) fun v W' ⟨hv, hb⟩ => ?_
  subst hv
  exact ⟨_, rfl, law_post rfl hW' (fun _ _ _ => trodAll_mk1 (shut_bool Try.underlying4 _)) (fun sp hsp => by
    rw [Try.params10]
    exact trodAll_mk1 (WideElems.Trod_stays laid_out (by kernel_rfl) (of_decide_eq_true (by kernel_rfl)) h0 (fun x hx => hb.same (hlt x hx)) hsp)) rfl hb (ok_one (by kernel_rfl) rfl (okWide_bool_mk Try.underlying4 _))⟩

theorem treeJoins_holds : Rows.TreeJoinsSaid :=
  OpenClaim.holds_of_wide 10 Try.f10 rfl rfl rfl rfl rfl rfl rfl ⟨rfl, rfl, rfl, rfl, rfl⟩ rfl rfl rfl rfl rfl (by kernel_rfl) Try.func10 (by kernel_rfl)
    (of_decide_eq_true (by kernel_rfl)) (by unfold Func.isWrapper; first | (rw [if_pos (by decide +kernel)]; kernel_rfl) | (rw [if_neg (by decide +kernel)]; exact ⟨rfl, rfl⟩))
    (fun os started H enc _ => treeJoins_lifted os started H enc)
#print axioms treeJoins_holds
end Go.Proofs.Ytnimlcbgeiajiaa
