/-
  The law TreeMerges: the walk.
-/
import Derived.Test.YtnimlcbgeiajiaaVN
import Derived.Test.YtnimlcbgeiajiaaVO
import Derived.Test.YtnimlcbgeiajiaaVS

namespace Go.Proofs.Ytnimlcbgeiajiaa
open Go.RowKit

set_option maxHeartbeats 8000000 in
set_option maxRecDepth 100000 in
theorem lawMerges {v : Value} {d : Int} {a : TA} {w : World} (h : IsTA w w.heap.size v a) :
    Calls Try.prog 5 #[v, .int .i64 d] w (Ret fun v w' => v = .bool true ∧ Below w.heap.size w w') := by
  obtain ⟨A1, c1, A2, c2, A3, c3, rfl, h1, h2, h3⟩ := h
  obtain ⟨w1, hw1, hb1, hB1, hk1⟩ := box_blk w #[.int .i64 a.letters, .int .i64 a.states, .slice A1 a.accept.length c1, .slice A2 a.leaves.length c2, .slice A3 a.branches.length c3] 26
  have hsz1 := hb1.size
  have hcb := hB1.cell
  have hT : IsTA w1 w1.heap.size (.agg #[.int .i64 a.letters, .int .i64 a.states, .slice A1 a.accept.length c1, .slice A2 a.leaves.length c2, .slice A3 a.branches.length c3]) a :=
    IsTA.keep ⟨A1, c1, A2, c2, A3, c3, rfl, h1, h2, h3⟩ (fun _ hp => hb1.cell hp) hsz1
  have hTT := hide hT
  clear hT h1 h2 h3
  go_enter Try.func5, Try.ntmps5
  go_wp2_with fail
  refine Calls.ret (small_any hTT.out) ?_
  rintro v w2 ⟨rfl, hb2⟩
  have hb02 : Below w.heap.size w w2 := hb1.trans (hb2.mono hsz1)
  have hB2 := hB1.below hb2
  have hcb2 := hB2.cell
  have hs2 := hb2.size
  have hs02 := hb02.size
  cases hsm : a.small with
  | false =>
    go_wp2_with fail
    refine Calls.ret (known_any w2) ?_
    rintro v w4 ⟨rfl, hb4⟩
    have hb04 := hide (hb02.trans (hb4.mono hs02))
    clear hb4
    go_wp2_with fail
    go_ret
    exact ⟨rfl, hb04.out⟩
  | true =>
    have hBR := hide (small_branches hsm)
    have hT2 := hide (hTT.out.keep (fun _ hp => hb2.cell hp) hs2)
    clear hsm
    go_wp2_with fail
    refine Calls.ret (mergeG_any _ a d w2 hT2.out hBR.out) ?_
    rintro v5 w5 ⟨hb5, e, b, vm, rfl, hrel, hTA5⟩
    obtain ⟨C1, f1, C2, f2, C3, f3, xs, rfl, q1, q2, q3, -, -⟩ := hTA5
    have hTm5 := hide (show IsTA w5 w5.heap.size (.agg #[.int .i64 b.letters, .int .i64 b.states, .slice C1 b.accept.length f1, .slice C2 b.leaves.length f2, .slice C3 b.branches.length f3]) b from ⟨C1, f1, C2, f2, C3, f3, rfl, q1, q2, q3⟩)
    obtain ⟨w6, hw6, hb6, hB6, hk6⟩ := box_blk w5 #[.int .i64 b.letters, .int .i64 b.states, .slice C1 b.accept.length f1, .slice C2 b.leaves.length f2, .slice C3 b.branches.length f3] 26
    have hb26 : Below w2.heap.size w2 w6 := hb5.trans (hb6.mono hb5.size)
    have hT6 := hide (hT2.out.keep (fun _ hp => hb26.cell hp) hb26.size)
    have hB26 := hB2.below hb26
    have hc26 := hB26.cell
    have hs26 := hb26.size
    have hs6 := hb6.size
    have hrelH := hide hrel
    have hb06 := hide (hb02.trans (hb26.mono hs02))
    clear q1 q2 q3 hb5 hrel hcb2 hcb
    go_wp2_with fail
    refine Calls.ret (refMerge_any _ a d w6 hT6.out) ?_
    rintro v7 w7 ⟨hb7, e', b', vn, rfl, hrel', hTA7⟩
    obtain ⟨rfl, rfl⟩ := hrelH.out.unique hrel'
    obtain ⟨G1, k1, G2, k2, G3, k3, xs', rfl, q1, q2, q3, -, -⟩ := hTA7
    have hTn7 := hide (show IsTA w7 w7.heap.size (.agg #[.int .i64 b.letters, .int .i64 b.states, .slice G1 b.accept.length k1, .slice G2 b.leaves.length k2, .slice G3 b.branches.length k3]) b from ⟨G1, k1, G2, k2, G3, k3, rfl, q1, q2, q3⟩)
    obtain ⟨w8, hw8, hb8, hB8, hk8⟩ := box_blk w7 #[.int .i64 b.letters, .int .i64 b.states, .slice G1 b.accept.length k1, .slice G2 b.leaves.length k2, .slice G3 b.branches.length k3] 26
    have hb68 : Below w6.heap.size w6 w8 := hb7.trans (hb8.mono hb7.size)
    have hb58 : Below w5.heap.size w5 w8 := hb6.trans (hb68.mono hs6)
    have hTm8 := hide (hTm5.out.keep (fun _ hp => hb58.cell hp) hb58.size)
    have hTn8 := hide (hTn7.out.keep (fun _ hp => hb8.cell hp) hb8.size)
    have hB68 := hB6.below hb68
    have hc68 := hB68.cell
    have hc88 := hB8.cell
    have hs8 := hb68.size
    have hs06 := hb06.out.size
    have hb08 := hide (hb06.out.trans (hb68.mono hs06))
    have hee : (e == e) = true := by simp
    clear hrel' q1 q2 q3 hb7 hc26 hb58 hb68
    go_wp2_with (first
      | (go_at_call 23; refine Calls.ret (sameAutomaton_any hTm8.out hTn8.out) ?_; rintro r10 w10 ⟨rfl, hb10⟩; have hb10H := hide hb10; clear hb10)
      | (go_at_call 17; refine Calls.ret (known_any w10) ?_; rintro r11 w11 ⟨rfl, hb11⟩; have hb11H := hide hb11; clear hb11))
    go_ret
    have hs10 := hb10H.out.size
    have hs08 := hb08.out.size
    exact ⟨by simp, (hb08.out.trans (hb10H.out.mono (by omega))).trans (hb11H.out.mono (by omega))⟩
end Go.Proofs.Ytnimlcbgeiajiaa
