/-
  Part JQ of a proof.
-/
import Derived.Test.YtakpmdmjbgipiaaGreatDoorPA
import Derived.Test.YtakpmdmjbgipiaaGreatDoorJI
import Derived.Test.YtakpmdmjbgipiaaGreatDoorJO
import Derived.Test.YtakpmdmjbgipiaaGreatDoorJP
set_option maxHeartbeats 16000000
set_option maxRecDepth 100000
set_option linter.unusedVariables false
set_option linter.unusedSimpArgs false
namespace Go.Proofs.YtakpmdmjbgipiaaGreatDoor
open Go.RowKit
set_option maxHeartbeats 16000000
set_option maxRecDepth 100000
theorem union_any {vA vB : Value} {a b : WA} {w : World} (hA : IsWA w w.heap.size vA a) (hB : IsWA w w.heap.size vB b) (hea : a.edges.length ≤ 3000000) (hsa : a.start.length ≤ 4000000) (heb : b.edges.length ≤ 3000000) (hsb : b.start.length ≤ 4000000) (hT : PowT w) :
  Calls Tryz.prog 12 #[vA, vB] w (Ret fun r w' => CombRet (fun x y => x || y) w a b r w') := by
 have hAH := hide hA
 have hBH := hide hB
 obtain ⟨A1, c1, A2, c2, A3, c3, rfl, -⟩ := hA
 obtain ⟨B1, d1, B2, d2, B3, d3, rfl, -⟩ := hB
 obtain ⟨w1, hw1, hb1, hB1, hk1⟩ := box_blk w #[.int .i64 a.letters, .int .i64 a.states, .slice A1 a.start.length c1, .slice A2 a.accept.length c2, .slice A3 a.edges.length c3] 28
 obtain ⟨w2, hw2, hb2, hB2, hk2⟩ := box_blk w1 #[.int .i64 b.letters, .int .i64 b.states, .slice B1 b.start.length d1, .slice B2 b.accept.length d2, .slice B3 b.edges.length d3] 28
 obtain ⟨w3, hw3, hb3, hB3, hk3⟩ := box_blk w2 zero25 28
 have s1 := hb1.size
 have s2 := hb2.size
 have s3 := hb3.size
 have l3 := hB3.lt
 have b13 : Below w1.heap.size w1 w3 := hb2.trans (hb3.mono s2)
 have b03 := hide (hb1.trans (b13.mono s1))
 have f1 := (hB1.below b13).cell
 have f2 := (hB2.below hb3).cell
 have hBr3 := hide hB3
 have hcom := combine_any (F := 33) (op := fun x y => x || y) (.inl ⟨rfl, rfl⟩) (hAH.out.keep (w' := w3) (fun p hp => b03.out.cell hp) b03.out.size) (hBH.out.keep (w' := w3) (fun p hp => b03.out.cell hp) b03.out.size) hea hsa heb hsb (hT.below b03.out)
 clear hk1 hk2 hk3 hB1 hB2 hB3 hb1 hb2 hb3 b13 hT
 go_enter Tryz.func12, Tryz.ntmps12
 go_wp2_with fail
 refine Calls.ret hcom ?_
 rintro r w4 ⟨hb4, hcase⟩
 have s4 := hb4.size
 have b04 := hide (b03.out.trans (hb4.mono b03.out.size))
 have bs := b04.out.size
 have hBr4 := hBr3.out.below hb4
 have j1 := hBr4.frozen
 have j2 := hBr4.lt
 have j3 := hBr4.cell
 clear hcom f1 f2
 rcases hcase with ⟨hbo, rfl⟩ | ⟨hbo, hbig, rfl⟩ | ⟨hbo, hnb, t, ac, d, hC, hac, rfl, hI⟩
 ·obtain ⟨wF, hwF, hBF, hKF⟩ := set5_facts hBr4 (.int .i64 0) (.int .i64 0) sn0 sn0 sn0
  have j4 := hBF.cell
  have hbF := hide (b04.out.trans (hKF.below (by omega) fun b hb e => by omega))
  have hboH := hide hbo
  unfold set5 at hwF
  clear hb4 hBr4 hBF hKF hbo
  go_wp2_with fail
  refine bodyPost_ret (v := .tuple #[.agg zero25, .int .i64 1]) (by simp [results, Tryz.results12, go_sem, j4]) rfl ⟨hbF.out, .inl ⟨hboH.out, rfl⟩⟩
 ·obtain ⟨wF, hwF, hBF, hKF⟩ := set5_facts hBr4 (.int .i64 0) (.int .i64 0) sn0 sn0 sn0
  have j4 := hBF.cell
  have hbF := hide (b04.out.trans (hKF.below (by omega) fun b hb e => by omega))
  have hboH := hide hbo
  have hbgH := hide hbig
  unfold set5 at hwF
  clear hb4 hBr4 hBF hKF hbo hbig
  go_wp2_with fail
  refine bodyPost_ret (v := .tuple #[.agg zero25, .int .i64 4]) (by simp [results, Tryz.results12, go_sem, j4]) rfl ⟨hbF.out, .inr (.inl ⟨hboH.out, hbgH.out, rfl⟩)⟩
 ·obtain ⟨m, hm⟩ : ∃ m, m = plainW a.L t ac := ⟨_, rfl⟩
  rw [← hm] at hI
  have hmH := hide hm
  obtain ⟨E1, h1, E2, h2, E3, h3, rfl, -⟩ := hI w4 (Kept.refl _ _)
  obtain ⟨wF, hwF, hBF, hKF⟩ := set5_facts hBr4 (.int .i64 m.letters) (.int .i64 m.states) (.slice E1 m.start.length h1) (.slice E2 m.accept.length h2) (.slice E3 m.edges.length h3)
  have j4 := hBF.cell
  have hbF := hide (b04.out.trans (hKF.below (by omega) fun b hb e => by omega))
  have hfin := hide (fun w'' (hk : Kept wF w'' (fun k => k < w.heap.size)) => hI w'' ((hKF.mono fun b _ e => by omega).trans hk fun b _ e => by omega))
  have hboH := hide hbo
  have hnbH := hide hnb
  have hCH := hide hC
  have hacH := hide hac
  unfold set5 at hwF
  clear hb4 hBr4 hBF hKF hbo hnb hC hac hI hm
  go_wp2_with fail
  refine bodyPost_ret (v := .tuple #[.agg #[.int .i64 m.letters, .int .i64 m.states, .slice E1 m.start.length h1, .slice E2 m.accept.length h2, .slice E3 m.edges.length h3], .int .i64 0]) (by simp [results, Tryz.results12, go_sem, j4]) rfl ⟨hbF.out, .inr (.inr ⟨hboH.out, hnbH.out, t, ac, _, hCH.out, hacH.out, rfl, by rw [← hmH.out]; exact hfin.out⟩)⟩
theorem inter_any {vA vB : Value} {a b : WA} {w : World} (hA : IsWA w w.heap.size vA a) (hB : IsWA w w.heap.size vB b) (hea : a.edges.length ≤ 3000000) (hsa : a.start.length ≤ 4000000) (heb : b.edges.length ≤ 3000000) (hsb : b.start.length ≤ 4000000) (hT : PowT w) :
  Calls Tryz.prog 14 #[vA, vB] w (Ret fun r w' => CombRet (fun x y => x && y) w a b r w') := by
 have hAH := hide hA
 have hBH := hide hB
 obtain ⟨A1, c1, A2, c2, A3, c3, rfl, -⟩ := hA
 obtain ⟨B1, d1, B2, d2, B3, d3, rfl, -⟩ := hB
 obtain ⟨w1, hw1, hb1, hB1, hk1⟩ := box_blk w #[.int .i64 a.letters, .int .i64 a.states, .slice A1 a.start.length c1, .slice A2 a.accept.length c2, .slice A3 a.edges.length c3] 28
 obtain ⟨w2, hw2, hb2, hB2, hk2⟩ := box_blk w1 #[.int .i64 b.letters, .int .i64 b.states, .slice B1 b.start.length d1, .slice B2 b.accept.length d2, .slice B3 b.edges.length d3] 28
 obtain ⟨w3, hw3, hb3, hB3, hk3⟩ := box_blk w2 zero25 28
 have s1 := hb1.size
 have s2 := hb2.size
 have s3 := hb3.size
 have l3 := hB3.lt
 have b13 : Below w1.heap.size w1 w3 := hb2.trans (hb3.mono s2)
 have b03 := hide (hb1.trans (b13.mono s1))
 have f1 := (hB1.below b13).cell
 have f2 := (hB2.below hb3).cell
 have hBr3 := hide hB3
 have hcom := combine_any (F := 35) (op := fun x y => x && y) (.inr (.inl ⟨rfl, rfl⟩)) (hAH.out.keep (w' := w3) (fun p hp => b03.out.cell hp) b03.out.size) (hBH.out.keep (w' := w3) (fun p hp => b03.out.cell hp) b03.out.size) hea hsa heb hsb (hT.below b03.out)
 clear hk1 hk2 hk3 hB1 hB2 hB3 hb1 hb2 hb3 b13 hT
 go_enter Tryz.func14, Tryz.ntmps14
 go_wp2_with fail
 refine Calls.ret hcom ?_
 rintro r w4 ⟨hb4, hcase⟩
 have s4 := hb4.size
 have b04 := hide (b03.out.trans (hb4.mono b03.out.size))
 have bs := b04.out.size
 have hBr4 := hBr3.out.below hb4
 have j1 := hBr4.frozen
 have j2 := hBr4.lt
 have j3 := hBr4.cell
 clear hcom f1 f2
 rcases hcase with ⟨hbo, rfl⟩ | ⟨hbo, hbig, rfl⟩ | ⟨hbo, hnb, t, ac, d, hC, hac, rfl, hI⟩
 ·obtain ⟨wF, hwF, hBF, hKF⟩ := set5_facts hBr4 (.int .i64 0) (.int .i64 0) sn0 sn0 sn0
  have j4 := hBF.cell
  have hbF := hide (b04.out.trans (hKF.below (by omega) fun b hb e => by omega))
  have hboH := hide hbo
  unfold set5 at hwF
  clear hb4 hBr4 hBF hKF hbo
  go_wp2_with fail
  refine bodyPost_ret (v := .tuple #[.agg zero25, .int .i64 1]) (by simp [results, Tryz.results14, go_sem, j4]) rfl ⟨hbF.out, .inl ⟨hboH.out, rfl⟩⟩
 ·obtain ⟨wF, hwF, hBF, hKF⟩ := set5_facts hBr4 (.int .i64 0) (.int .i64 0) sn0 sn0 sn0
  have j4 := hBF.cell
  have hbF := hide (b04.out.trans (hKF.below (by omega) fun b hb e => by omega))
  have hboH := hide hbo
  have hbgH := hide hbig
  unfold set5 at hwF
  clear hb4 hBr4 hBF hKF hbo hbig
  go_wp2_with fail
  refine bodyPost_ret (v := .tuple #[.agg zero25, .int .i64 4]) (by simp [results, Tryz.results14, go_sem, j4]) rfl ⟨hbF.out, .inr (.inl ⟨hboH.out, hbgH.out, rfl⟩)⟩
 ·obtain ⟨m, hm⟩ : ∃ m, m = plainW a.L t ac := ⟨_, rfl⟩
  rw [← hm] at hI
  have hmH := hide hm
  obtain ⟨E1, h1, E2, h2, E3, h3, rfl, -⟩ := hI w4 (Kept.refl _ _)
  obtain ⟨wF, hwF, hBF, hKF⟩ := set5_facts hBr4 (.int .i64 m.letters) (.int .i64 m.states) (.slice E1 m.start.length h1) (.slice E2 m.accept.length h2) (.slice E3 m.edges.length h3)
  have j4 := hBF.cell
  have hbF := hide (b04.out.trans (hKF.below (by omega) fun b hb e => by omega))
  have hfin := hide (fun w'' (hk : Kept wF w'' (fun k => k < w.heap.size)) => hI w'' ((hKF.mono fun b _ e => by omega).trans hk fun b _ e => by omega))
  have hboH := hide hbo
  have hnbH := hide hnb
  have hCH := hide hC
  have hacH := hide hac
  unfold set5 at hwF
  clear hb4 hBr4 hBF hKF hbo hnb hC hac hI hm
  go_wp2_with fail
  refine bodyPost_ret (v := .tuple #[.agg #[.int .i64 m.letters, .int .i64 m.states, .slice E1 m.start.length h1, .slice E2 m.accept.length h2, .slice E3 m.edges.length h3], .int .i64 0]) (by simp [results, Tryz.results14, go_sem, j4]) rfl ⟨hbF.out, .inr (.inr ⟨hboH.out, hnbH.out, t, ac, _, hCH.out, hacH.out, rfl, by rw [← hmH.out]; exact hfin.out⟩)⟩
end Go.Proofs.YtakpmdmjbgipiaaGreatDoor
namespace Go.Proofs.YtakpmdmjbgipiaaGreatDoor
open Go.RowKit
set_option maxHeartbeats 16000000
set_option maxRecDepth 100000
def zeroJ : WA := ⟨0, 0, [], [], []⟩
theorem zeroJ_is (w : World) : IsWA w w.heap.size (.agg zero25) zeroJ := ⟨none, 0, none, 0, none, 0, rfl, Sl.nil rfl, Sl.nil rfl, Sl.nil rfl, Nat.le_refl _⟩
theorem lay5 {w : World} {d : Value} {m : WA} (h : IsWA w w.heap.size d m) : ∃ E1 h1 E2 h2 E3 h3 w6, d = .agg #[.int .i64 m.letters, .int .i64 m.states, .slice E1 m.start.length h1, .slice E2 m.accept.length h2, .slice E3 m.edges.length h3] ∧
  w.alloc (.cells #[.int .i64 m.letters, .int .i64 m.states, .slice E1 m.start.length h1, .slice E2 m.accept.length h2, .slice E3 m.edges.length h3] 28) = w6 ∧ Below w.heap.size w w6 ∧ Blk w6 w.heap.size 28 #[.int .i64 m.letters, .int .i64 m.states, .slice E1 m.start.length h1, .slice E2 m.accept.length h2, .slice E3 m.edges.length h3] ∧
  IsWA w6 w6.heap.size (.agg #[.int .i64 m.letters, .int .i64 m.states, .slice E1 m.start.length h1, .slice E2 m.accept.length h2, .slice E3 m.edges.length h3]) m := by
 have h' := h
 obtain ⟨E1, h1, E2, h2, E3, h3, rfl, -⟩ := h'
 obtain ⟨w6, hw6, hb6, hB6, hk6⟩ := box_blk w #[.int .i64 m.letters, .int .i64 m.states, .slice E1 m.start.length h1, .slice E2 m.accept.length h2, .slice E3 m.edges.length h3] 28
 exact ⟨E1, h1, E2, h2, E3, h3, w6, rfl, hw6, hb6, hB6, h.keep (fun p hp => hb6.cell hp) hb6.size⟩
theorem CombRet.get {w w' : World} {op : Bool → Bool → Bool} {a b : WA} {r : Value} (h : CombRet op w a b r w') : Below w.heap.size w w' ∧ ∃ (mm : WA) (e : Int) (dv : Value), r = .tuple #[dv, .int .i64 e] ∧ IsWA w' w'.heap.size dv mm ∧
  (∀ (w2 w2' : World) (r2 : Value), CombRet op w2 a b r2 w2' → Below w2.heap.size w2 w2' ∧ ∃ d2, r2 = .tuple #[d2, .int .i64 e] ∧ IsWA w2' w2'.heap.size d2 mm) := by
 obtain ⟨hb, ⟨h1, rfl⟩ | ⟨h1, h2, rfl⟩ | ⟨h1, h2, t', ac, d, hC, hac, rfl, hI⟩⟩ := h
 ·refine ⟨hb, zeroJ, 1, _, rfl, zeroJ_is _, fun w2 w2' r2 h' => ?_⟩
  obtain ⟨hb', ⟨-, rfl⟩ | ⟨g1, -⟩ | ⟨g1, -⟩⟩ := h'
  ·exact ⟨hb', _, rfl, zeroJ_is _⟩
  all_goals
   rw [h1] at g1; cases g1
 ·refine ⟨hb, zeroJ, 4, _, rfl, zeroJ_is _, fun w2 w2' r2 h' => ?_⟩
  obtain ⟨hb', ⟨g1, -⟩ | ⟨-, -, rfl⟩ | ⟨-, g1, -⟩⟩ := h'
  ·rw [h1] at g1; cases g1
  ·exact ⟨hb', _, rfl, zeroJ_is _⟩
  ·exact (g1 h2).elim
 ·refine ⟨hb, plainW a.L t' ac, 0, d, rfl, hI w' (Kept.refl _ _), fun w2 w2' r2 h' => ?_⟩
  obtain ⟨hb', ⟨g1, -⟩ | ⟨-, g1, -⟩ | ⟨-, -, u, bc, d2, hD, -, rfl, hI'⟩⟩ := h'
  ·rw [h1] at g1; cases g1
  ·exact (h2 g1).elim
  ·obtain ⟨rfl, rfl⟩ := hD.unique hC fun _ _ => rfl
   exact ⟨hb', d2, rfl, hI' w2' (Kept.refl _ _)⟩
theorem lawJoins {vA vB : Value} {a b : WA} {w : World} (hA : IsWA w w.heap.size vA a) (hB : IsWA w w.heap.size vB b) (hT : PowT w) :
  Calls Tryz.prog 4 #[vA, vB] w (Ret fun v w' => v = .bool true ∧ Below w.heap.size w w') := by
 have hAH := hide hA
 have hBH := hide hB
 obtain ⟨A1, c1, A2, c2, A3, c3, rfl, -⟩ := hA
 obtain ⟨B1, d1, B2, d2, B3, d3, rfl, -⟩ := hB
 obtain ⟨w1, hw1, hb1, hB1, hk1⟩ := box_blk w #[.int .i64 a.letters, .int .i64 a.states, .slice A1 a.start.length c1, .slice A2 a.accept.length c2, .slice A3 a.edges.length c3] 28
 obtain ⟨w2, hw2, hb2, hB2, hk2⟩ := box_blk w1 #[.int .i64 b.letters, .int .i64 b.states, .slice B1 b.start.length d1, .slice B2 b.accept.length d2, .slice B3 b.edges.length d3] 28
 have s1 := hb1.size
 have b02 := hide (hb1.trans (hb2.mono s1))
 have hBa2 := hide (hB1.below hb2)
 have hBb2 := hide hB2
 have hTH := hide hT
 have f1 := hBa2.out.cell
 have f2 := hBb2.out.cell
 have hbig := Big_any (hAH.out.keep (w' := w2) (fun p hp => b02.out.cell hp) b02.out.size)
 clear hk1 hk2 hb1 hb2 hB1 hB2 hT
 go_enter Tryz.func4, Tryz.ntmps4
 go_wp2_with fail
 refine Calls.ret hbig ?_
 rintro r w3 ⟨rfl, hb3⟩
 have b03 := hide (b02.out.trans (hb3.mono b02.out.size))
 have hBa3 := hide (hBa2.out.below (hb3.mono (Nat.le_refl _)))
 have hBb3 := hide (hBb2.out.below (hb3.mono (Nat.le_refl _)))
 have f3 := hBb3.out.cell
 have f4 := hBa3.out.cell
 clear hbig hb3 f1 f2
 cases hbg : a.big with
 | true =>
  have hkn := known_any (hTH.out.below b03.out)
  go_wp2_with fail
  refine Calls.ret hkn ?_
  rintro r wk ⟨rfl, hbk⟩
  have hbK := hide (b03.out.trans (hbk.mono b03.out.size))
  clear hkn hbk
  go_wp2_with fail
  go_ret
  exact ⟨rfl, hbK.out⟩
 | false =>
  obtain ⟨g1, g2, g3⟩ := WA.big_not hbg
  have hbig := Big_any (hBH.out.keep (w' := w3) (fun p hp => b03.out.cell hp) b03.out.size)
  clear hbg
  go_wp2_with fail
  refine Calls.ret hbig ?_
  rintro r w4 ⟨rfl, hb4⟩
  have b04 := hide (b03.out.trans (hb4.mono b03.out.size))
  have hBa4 := hide (hBa3.out.below (hb4.mono (Nat.le_refl _)))
  have hBb4 := hide (hBb3.out.below (hb4.mono (Nat.le_refl _)))
  have f1 := hBa4.out.cell
  have f2 := hBb4.out.cell
  clear hbig hb4 f3 f4
  cases hbg : b.big with
  | true =>
   have hkn := known_any (hTH.out.below b04.out)
   go_wp2_with fail
   refine Calls.ret hkn ?_
   rintro r wk ⟨rfl, hbk⟩
   have hbK := hide (b04.out.trans (hbk.mono b04.out.size))
   clear hkn hbk
   go_wp2_with fail
   go_ret
   exact ⟨rfl, hbK.out⟩
  | false =>
   obtain ⟨k1, k2, k3⟩ := WA.big_not hbg
   have e1 : a.edges.length ≤ 3000000 := by omega
   have e2 : b.edges.length ≤ 3000000 := by omega
   have e3 : a.start.length ≤ 4000000 := by omega
   have e4 : b.start.length ≤ 4000000 := by omega
   have hE := hide (And.intro (And.intro e1 e3) (And.intro e2 e4))
   clear hbg g1 g2 g3 k1 k2 k3 e1 e2 e3 e4
   have hAx := hide (fun (wx : World) (hb : Below w.heap.size w wx) => hAH.out.keep (w' := wx) (fun p hp => hb.cell hp) hb.size)
   have hBx := hide (fun (wx : World) (hb : Below w.heap.size w wx) => hBH.out.keep (w' := wx) (fun p hp => hb.cell hp) hb.size)
   have hcall := union_any (hAx.out w4 b04.out) (hBx.out w4 b04.out) hE.out.1.1 hE.out.1.2 hE.out.2.1 hE.out.2.2 (hTH.out.below b04.out)
   go_wp2_with fail
   refine Calls.ret hcall ?_
   intro r w5 hret
   obtain ⟨hb5, mm, e, dv, rfl, hI5, hoth⟩ := hret.get
   have hothmm := hide hoth
   clear hoth
   have hbo := lay5 hI5
   obtain ⟨E01, h01, E02, h02, E03, h03, w6, rfl, hw6, hb6, hB6, hJ6⟩ := hbo
   have bcn := hb5.trans (hb6.mono hb5.size)
   have b06 := hide (b04.out.trans (bcn.mono b04.out.size))
   have hBa6 := hide (hBa4.out.below (bcn.mono (Nat.le_refl _)))
   have hBb6 := hide (hBb4.out.below (bcn.mono (Nat.le_refl _)))
   have hM0_6 := hide hB6
   have hJ0_6 := hide hJ6
   have x6 := hBa6.out.cell
   have y6 := hBb6.out.cell
   clear hcall hret hb5 hI5 hb6 hB6 hJ6 bcn f1 f2
   have hcall := refUnion_any (hAx.out w6 b06.out) (hBx.out w6 b06.out)
   go_wp2_with fail
   refine Calls.ret hcall ?_
   intro r w7 hret
   obtain ⟨hb7, dv, rfl, hI7⟩ := hothmm.out w6 w7 r hret
   have hbo := lay5 hI7
   obtain ⟨E11, h11, E12, h12, E13, h13, w8, rfl, hw8, hb8, hB8, hJ8⟩ := hbo
   have bcn := hb7.trans (hb8.mono hb7.size)
   have b08 := hide (b06.out.trans (bcn.mono b06.out.size))
   have hBa8 := hide (hBa6.out.below (bcn.mono (Nat.le_refl _)))
   have hBb8 := hide (hBb6.out.below (bcn.mono (Nat.le_refl _)))
   have hM0_8 := hide (hM0_6.out.below (bcn.mono (Nat.le_refl _)))
   have hJ0_8 := hide (hJ0_6.out.keep (w' := w8) (fun p hp => bcn.cell hp) bcn.size)
   have hM1_8 := hide hB8
   have hJ1_8 := hide hJ8
   have x8 := hBa8.out.cell
   have y8 := hBb8.out.cell
   clear hcall hret hb7 hI7 hb8 hB8 hJ8 bcn x6 y6
   have hcall := inter_any (hAx.out w8 b08.out) (hBx.out w8 b08.out) hE.out.1.1 hE.out.1.2 hE.out.2.1 hE.out.2.2 (hTH.out.below b08.out)
   go_wp2_with fail
   refine Calls.ret hcall ?_
   intro r w9 hret
   obtain ⟨hb9, nn, g, dv, rfl, hI9, hoth⟩ := hret.get
   have hothnn := hide hoth
   clear hoth
   have hbo := lay5 hI9
   obtain ⟨E21, h21, E22, h22, E23, h23, w10, rfl, hw10, hb10, hB10, hJ10⟩ := hbo
   have bcn := hb9.trans (hb10.mono hb9.size)
   have b010 := hide (b08.out.trans (bcn.mono b08.out.size))
   have hBa10 := hide (hBa8.out.below (bcn.mono (Nat.le_refl _)))
   have hBb10 := hide (hBb8.out.below (bcn.mono (Nat.le_refl _)))
   have hM0_10 := hide (hM0_8.out.below (bcn.mono (Nat.le_refl _)))
   have hJ0_10 := hide (hJ0_8.out.keep (w' := w10) (fun p hp => bcn.cell hp) bcn.size)
   have hM1_10 := hide (hM1_8.out.below (bcn.mono (Nat.le_refl _)))
   have hJ1_10 := hide (hJ1_8.out.keep (w' := w10) (fun p hp => bcn.cell hp) bcn.size)
   have hM2_10 := hide hB10
   have hJ2_10 := hide hJ10
   have x10 := hBa10.out.cell
   have y10 := hBb10.out.cell
   clear hcall hret hb9 hI9 hb10 hB10 hJ10 bcn x8 y8
   have hcall := refInter_any (hAx.out w10 b010.out) (hBx.out w10 b010.out)
   go_wp2_with fail
   refine Calls.ret hcall ?_
   intro r w11 hret
   obtain ⟨hb11, dv, rfl, hI11⟩ := hothnn.out w10 w11 r hret
   have hbo := lay5 hI11
   obtain ⟨E31, h31, E32, h32, E33, h33, w12, rfl, hw12, hb12, hB12, hJ12⟩ := hbo
   have bcn := hb11.trans (hb12.mono hb11.size)
   have b012 := hide (b010.out.trans (bcn.mono b010.out.size))
   have hBa12 := hide (hBa10.out.below (bcn.mono (Nat.le_refl _)))
   have hBb12 := hide (hBb10.out.below (bcn.mono (Nat.le_refl _)))
   have hM0_12 := hide (hM0_10.out.below (bcn.mono (Nat.le_refl _)))
   have hJ0_12 := hide (hJ0_10.out.keep (w' := w12) (fun p hp => bcn.cell hp) bcn.size)
   have hM1_12 := hide (hM1_10.out.below (bcn.mono (Nat.le_refl _)))
   have hJ1_12 := hide (hJ1_10.out.keep (w' := w12) (fun p hp => bcn.cell hp) bcn.size)
   have hM2_12 := hide (hM2_10.out.below (bcn.mono (Nat.le_refl _)))
   have hJ2_12 := hide (hJ2_10.out.keep (w' := w12) (fun p hp => bcn.cell hp) bcn.size)
   have hM3_12 := hide hB12
   have hJ3_12 := hide hJ12
   have x12 := hBa12.out.cell
   have y12 := hBb12.out.cell
   clear hcall hret hb11 hI11 hb12 hB12 hJ12 bcn x10 y10
   clear x12 y12
   have m0 := hM0_12.out.cell
   have m1 := hM1_12.out.cell
   have hsa := sameAutomaton_any hJ0_12.out hJ1_12.out
   rw [decide_eq_true (rfl : mm = mm)] at hsa
   have hee : (e == e) = true := by simp
   have hgg : (g == g) = true := by simp
   go_wp2_with fail
   refine Calls.ret hsa ?_
   rintro r wA ⟨rfl, hbA⟩
   have b0A := hide (b012.out.trans (hbA.mono b012.out.size))
   have m2 := (hM2_12.out.below (hbA.mono (Nat.le_refl _))).cell
   have m3 := (hM3_12.out.below (hbA.mono (Nat.le_refl _))).cell
   have hsa2 := sameAutomaton_any (hJ2_12.out.keep (w' := wA) (fun p hp => hbA.cell hp) hbA.size) (hJ3_12.out.keep (w' := wA) (fun p hp => hbA.cell hp) hbA.size)
   rw [decide_eq_true (rfl : nn = nn)] at hsa2
   clear hsa hbA m0 m1
   go_wp2_with fail
   refine Calls.ret hsa2 ?_
   rintro r wB ⟨rfl, hbB⟩
   have b0B := hide (b0A.out.trans (hbB.mono b0A.out.size))
   clear hsa2 hbB m2 m3
   have hkn := known_any (hTH.out.below b0B.out)
   go_wp2_with fail
   refine Calls.ret hkn ?_
   rintro r wk ⟨rfl, hbk⟩
   have hbK := hide (b0B.out.trans (hbk.mono b0B.out.size))
   clear hkn hbk
   go_wp2_with fail
   go_ret
   exact ⟨rfl, hbK.out⟩
end Go.Proofs.YtakpmdmjbgipiaaGreatDoor
