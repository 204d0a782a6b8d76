/-
  Part PM of a proof.
-/
import Derived.Test.YtakpmdmjbgipiaaGreatDoorPA
import Derived.Test.YtakpmdmjbgipiaaGreatDoorPL
import Derived.Test.YtakpmdmjbgipiaaGreatDoorPB
set_option maxHeartbeats 16000000
set_option maxRecDepth 100000
set_option linter.unusedVariables false
set_option linter.unusedSimpArgs false
namespace Go.Proofs.YtakpmdmjbgipiaaGreatDoor
open Go.RowKit
set_option maxHeartbeats 16000000
set_option maxRecDepth 100000
def ShoRet (w : World) (a : WA) (r : Value) (w' : World) : Prop :=
 Below w.heap.size w w' ∧ ((a.ok = false ∧ r = .tuple #[.slice none 0 0, .bool false, .int .i64 1]) ∨
  (a.ok = true ∧ ∃ far, a.nf.Far far ∧ ((a.nf.shortR far = none ∧ r = .tuple #[.slice none 0 0, .bool false, .int .i64 0]) ∨
   ∃ u A c, a.nf.shortR far = some u ∧ r = .tuple #[.slice A u.length c, .bool true, .int .i64 0] ∧ Sl w' w'.heap.size 1 encI A (natL u))))
theorem WA.cat_le {a : WA} (he : a.edges.length ≤ 3000000) (m : List Bool) (x : Nat) (hm : m.length = a.nf.n) (hx : x < a.nf.L) : (a.nf.cat (setL m) x).length ≤ 4000000 := by
 have := WA.cat_len (a := a) (hm.trans a.nf_n) hx
 omega
theorem Shortest_any {v : Value} {a : WA} {w : World} (h : IsWA w w.heap.size v a) (he : a.edges.length ≤ 3000000) (hst : a.start.length ≤ 4000000) :
  Calls Tryz.prog 22 #[v] w (Ret fun r w' => ShoRet w a r w') := by
 have hWA := hide h
 obtain ⟨A1, c1, A2, c2, A3, c3, rfl, h1, h2, h3, h4⟩ := h
 obtain ⟨w1, hw1, hb1, hB1, hk1⟩ := box_blk w #[.int .i64 a.letters, .int .i64 a.states, .slice A1 a.start.length c1, .slice A2 a.accept.length c2, .slice A3 a.edges.length c3] 28
 have hs1 := hb1.size
 have hc1 := hB1.cell
 have hb1H := hide hb1
 have hB1H := hide hB1
 have hval := validate_any (hWA.out.keep (fun p hp => hb1.cell hp) hs1)
 cases hok : a.ok
 ·rw [hok, show errno false = 1 from rfl] at hval
  have hokH := hide hok
  clear h1 h2 h3 h4 hk1 hb1 hB1 he hst hok
  go_enter Tryz.func22, Tryz.ntmps22
  go_wp2_with fail
  refine Calls.ret hval ?_
  rintro r w3 ⟨rfl, hb3⟩
  have hbF := hide (hb1H.out.trans (hb3.mono hs1))
  clear hval hb3
  go_wp2_with fail
  exact bodyPost_ret (v := .tuple #[.slice none 0 0, .bool false, .int .i64 1]) (by simp [results, Tryz.results22, go_sem]) rfl ⟨hbF.out, .inl ⟨hokH.out, rfl⟩⟩
 ·rw [hok, show errno true = 0 from rfl] at hval
  have hin := (WA.ok_iff.1 hok).2
  have hbd := (WA.ok_iff.1 hok).1
  have hnet := hide (fun (wx : World) (hb : Below w.heap.size w wx) => network_any (hWA.out.keep (w' := wx) (fun p hp => hb.cell hp) hb.size) hin ⟨by omega, by omega⟩ ⟨by omega, by omega⟩ he)
  have hsho := hide (fun (wx : World) (d : Value) (hI : IsNF wx wx.heap.size d a.nf) => shortest_any hI (WA.nf_ok hin) (by rw [a.nf_n]; unfold WA.n; omega) (show a.L ≤ 8 by unfold WA.L; omega) (Nat.le_trans a.ps_len he) hst (WA.cat_le he))
  have hokH := hide hok
  clear h1 h2 h3 h4 hk1 hb1 hB1 he hst hok hin hbd
  go_enter Tryz.func22, Tryz.ntmps22
  go_wp2_with fail
  refine Calls.ret hval ?_
  rintro r w3 ⟨rfl, hb3⟩
  have hb03 := hide (hb1H.out.trans (hb3.mono hs1))
  have hc3 := (hB1H.out.below hb3).cell
  have hB3 := hide (hB1H.out.below hb3)
  clear hval hb3
  go_wp2_with fail
  refine Calls.ret (hnet.out _ hb03.out) ?_
  rintro nf w4 ⟨hNF, hb4⟩
  have hb04 := hide (hb03.out.trans (hb4.mono hb03.out.size))
  have hcall := hsho.out _ _ hNF
  clear hNF hb4
  go_wp2_with fail
  refine Calls.ret hcall ?_
  rintro r w5 ⟨hb5, far, hF, hr⟩
  have hbF := hide (hb04.out.trans (hb5.mono hb04.out.size))
  have hFH := hide hF
  clear hcall hb5 hF
  rcases hr with ⟨hn, rfl⟩ | ⟨u, A, c, hs, rfl, hS⟩
  ·have hnH := hide hn
   clear hn
   go_wp2_with fail
   exact bodyPost_ret (v := .tuple #[.slice none 0 0, .bool false, .int .i64 0]) (by simp [results, Tryz.results22, go_sem]) rfl ⟨hbF.out, .inr ⟨hokH.out, far, hFH.out, .inl ⟨hnH.out, rfl⟩⟩⟩
  ·have hsH := hide hs
   have hSH := hide hS
   clear hs hS
   go_wp2_with fail
   exact bodyPost_ret (v := .tuple #[.slice A u.length c, .bool true, .int .i64 0]) (by simp [results, Tryz.results22, go_sem]) rfl ⟨hbF.out, .inr ⟨hokH.out, far, hFH.out, .inr ⟨u, A, c, hsH.out, rfl, hSH.out⟩⟩⟩
def WA.big (a : WA) : Bool := decide (600 < a.start.length) || decide (600 < a.accept.length) || decide (1000 < a.edges.length)
theorem WA.big_not {a : WA} (h : a.big = false) : a.start.length ≤ 600 ∧ a.accept.length ≤ 600 ∧ a.edges.length ≤ 1000 := by
 simp only [WA.big, Bool.or_eq_false_iff, decide_eq_false_iff_not] at h
 omega
theorem Big_any {v : Value} {a : WA} {w : World} (h : IsWA w w.heap.size v a) : Calls Tryz.prog 7 #[v] w (Ret fun r w' => r = .bool a.big ∧ Below w.heap.size w w') := by
 obtain ⟨A1, c1, A2, c2, A3, c3, rfl, h1, h2, h3, h4⟩ := h
 obtain ⟨w1, hw1, hb1, hB1, hk1⟩ := box_blk w #[.int .i64 a.letters, .int .i64 a.states, .slice A1 a.start.length c1, .slice A2 a.accept.length c2, .slice A3 a.edges.length c3] 28
 have hc1 := hB1.cell
 have hb1H := hide hb1
 have l1 := h1.1
 have l2 := h2.1
 have l3 := h3.1
 have hbig := hide (show a.big = (decide (600 < a.start.length) || decide (600 < a.accept.length) || decide (1000 < a.edges.length)) from rfl)
 generalize a.start.length = n1 at *
 generalize a.accept.length = n2 at *
 generalize a.edges.length = n3 at *
 clear h1 h2 h3 h4 hk1 hb1 hB1
 by_cases b1 : 600 < n1
 ·go_enter Tryz.func7, Tryz.ntmps7
  go_wp2_with fail
  go_ret
  exact ⟨by rw [hbig.out]; simp [b1], hb1H.out⟩
 ·by_cases b2 : 600 < n2
  ·go_enter Tryz.func7, Tryz.ntmps7
   go_wp2_with fail
   go_ret
   exact ⟨by rw [hbig.out]; simp [b2], hb1H.out⟩
  ·by_cases b3 : 1000 < n3
   ·go_enter Tryz.func7, Tryz.ntmps7
    go_wp2_with fail
    go_ret
    exact ⟨by rw [hbig.out]; simp [b3]; omega, hb1H.out⟩
   ·go_enter Tryz.func7, Tryz.ntmps7
    go_wp2_with fail
    go_ret
    exact ⟨by rw [hbig.out]; simp [b1, b2, b3]; omega, hb1H.out⟩
def a0 : WA := ⟨1, 0, [], [], []⟩
def a1 : WA := ⟨1, 1, [0], [0], []⟩
theorem a0_lang (w : List Nat) : a0.lang w = false := by
 unfold WA.lang NF.lang
 rcases h : a0.nf.has (runW a0.nf.after a0.nf.st w) with _ | _
 ·rfl
 ·obtain ⟨s, hs, _⟩ := NF.has_iff.1 h
  rw [a0.nf_n] at hs
  exact absurd hs (by show ¬ s < 0; omega)
theorem a0_small : ¬ a0.nf.Large 400 := by
 rintro ⟨i, l, hE, hl⟩
 have hn : a0.nf.n = 0 := by rw [a0.nf_n]; rfl
 have h0 : ∀ s ∈ l, s = [] := fun s hs => by
  obtain ⟨w, hw, rfl⟩ := hE.inv.reach s hs
  exact List.length_eq_zero_iff.1 ((a0.nf.run_len hw).trans hn)
 match l, hl, hE.inv.nodup, h0 with
 | [], hl, _, _ => simp at hl
 | [_], hl, _, _ => simp at hl
 | x :: y :: l, _, hnd, h0 =>
  rw [List.nodup_cons] at hnd
  exact hnd.1 (by rw [h0 x List.mem_cons_self, h0 y (List.mem_cons_of_mem _ List.mem_cons_self)]; exact List.mem_cons_self)
theorem one_can : CanT 1 [[0]] [false] (fun _ => false) := by
  have hd : ∀ q x, q < 1 → x < 1 → dnx [[0]] q x = 0 := fun q x hq hx => by
    obtain rfl : q = 0 := by omega
    obtain rfl : x = 0 := by omega
    rfl
  have hr : ∀ w, okW 1 w → runW (dnx [[0]]) 0 w = 0 := fun w hw => runW_inv (I := fun q => q = 0) (fun s x hx hs => by rw [hs]; exact hd 0 x (by omega) hx) w 0 hw rfl
  refine ⟨⟨rfl, by decide, fun r hr => ?_⟩, fun w hw => ?_, fun u v hu hv _ => ?_, ?_⟩
  · have : r = [0] := by simpa using hr
    subst this
    exact ⟨rfl, fun y hy => by have : y = 0 := by simpa using hy
                               subst this; decide⟩
  · rw [hr w hw]; rfl
  · rw [hr u hu, hr v hv]
  · exact Exp.row (l := [0]) (i := 0) (s := 0) .start rfl
theorem a1_ok : a1.ok = true := by decide
theorem a1_short {far : List Int} (h : a1.nf.Far far) : a1.nf.shortR far ≠ none := fun e => by
 have hs := (NF.shortR_ok h (WA.nf_ok (WA.ok_iff.1 a1_ok).2)).non e [] (okW.nil _)
 revert hs
 decide
theorem known_any {w : World} (hT : PowT w) : Calls Tryz.prog 8 #[] w (Ret fun v w' => v = .bool true ∧ Below w.heap.size w w') := by
 have hW0 : IsWA w w.heap.size (.agg #[.int .i64 1, .int .i64 0, .slice none 0 0, .slice none 0 0, .slice none 0 0]) a0 := ⟨none, 0, none, 0, none, 0, rfl, Sl.nil rfl, Sl.nil rfl, Sl.nil rfl, by decide⟩
 have hmin := refmin_any hW0 (by decide) (by decide) hT
 clear hW0 hT
 go_enter Tryz.func8, Tryz.ntmps8
 go_wp2_with fail
 refine Calls.ret hmin ?_
 rintro v w1 ⟨hb1, hr⟩
 rcases hr with ⟨h, _⟩ | ⟨_, h, _⟩ | ⟨_, _, t, ac, d, hC, hl, rfl, hD⟩
 ·exact absurd h (by decide)
 ·exact absurd h a0_small
 have hCu := CanT.unique (hC.congr (Λ' := fun _ => false) (fun w _ => (a0_lang w).symm)) one_can (fun _ _ => rfl)
 obtain ⟨rfl, rfl⟩ := hCu
 obtain ⟨A1, c1, A2, c2, A3, c3, rfl, -⟩ := hD w1 (Kept.refl _ _)
 have hp : plainW a0.L [[0]] [false] = ⟨1, 1, [0], [], [⟨0, 0, 0⟩]⟩ := by rfl
 rw [hp]
 simp only [List.length_cons, List.length_nil, Nat.zero_add]
 obtain ⟨w2, hw2, hb2, hB2, hk2⟩ := box_blk w1 #[.int .i64 1, .int .i64 1, .slice A1 1 c1, .slice A2 0 c2, .slice A3 1 c3] 28
 obtain ⟨w3, hw3, hb3, hB3, hk3⟩ := box_blk w2 #[.int .i64 0] 3
 obtain ⟨w4, hw4, hb4, hB4, hk4⟩ := box_blk w3 #[.int .i64 0] 3
 have hs1 := hb1.size
 have hs2 := hb2.size
 have hs3 := hb3.size
 have hb24 := hb3.trans (hb4.mono hs3)
 have hS1 : Sl w4 w4.heap.size 1 encI (some ⟨w2.heap.size, 0, none⟩) [0] := ⟨by decide, fun _ => ⟨_, 0, rfl, by have := (hB3.below hb4).lt; omega, fun k d hd j hj => by
  have hk := lt_of_get hd
  have hk0 : k = 0 := by simpa using hk
  have hj0 : j = 0 := by omega
  subst hk0 hj0
  have : d = 0 := by simpa using hd.symm
  subst this
  exact (hB3.below hb4).cell 0⟩⟩
 have hS2 : Sl w4 w4.heap.size 1 encI (some ⟨w3.heap.size, 0, none⟩) [0] := ⟨by decide, fun _ => ⟨_, 0, rfl, hB4.lt, fun k d hd j hj => by
  have hk := lt_of_get hd
  have hk0 : k = 0 := by simpa using hk
  have hj0 : j = 0 := by omega
  subst hk0 hj0
  have : d = 0 := by simpa using hd.symm
  subst this
  exact hB4.cell 0⟩⟩
 have hW1 : IsWA w4 w4.heap.size (.agg #[.int .i64 1, .int .i64 1, .slice (some ⟨w2.heap.size, 0, none⟩) 1 1, .slice (some ⟨w3.heap.size, 0, none⟩) 1 1, .slice none 0 0]) a1 := ⟨_, 1, _, 1, none, 0, rfl, hS1, hS2, Sl.nil rfl, by decide⟩
 have hsho := Shortest_any hW1 (by decide) (by decide)
 have hB2H := hide (hB2.below hb24)
 have hbH := hide ((hb1.trans (hb2.mono hs1)).trans (hb24.mono (by omega)))
 clear hmin hb1 hC hD hl hp hb2 hB2 hk2 hb3 hB3 hk3 hb4 hB4 hk4 hS1 hS2 hW1 hb24
 go_wp2_with fail
 refine Calls.ret hsho ?_
 rintro v w5 ⟨hb5, ⟨h, _⟩ | ⟨_, far, hF, ⟨h, _⟩ | ⟨u, A, c, _, rfl, _⟩⟩⟩
 ·rw [a1_ok] at h; cases h
 ·exact absurd h (a1_short hF)
 have hc5 := (hB2H.out.below hb5).cell
 have hbF := hide (hbH.out.trans (hb5.mono hbH.out.size))
 clear hsho hb5 hF
 go_wp2_with fail
 go_ret
 exact ⟨rfl, hbF.out⟩
end Go.Proofs.YtakpmdmjbgipiaaGreatDoor
