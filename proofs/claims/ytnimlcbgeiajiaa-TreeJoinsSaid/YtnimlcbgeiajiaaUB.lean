/-
  The law TreeJoins: the walk.
-/
import Derived.Test.YtnimlcbgeiajiaaUA
import Derived.Test.YtnimlcbgeiajiaaSK

namespace Go.Proofs.Ytnimlcbgeiajiaa
open Go.RowKit

set_option maxHeartbeats 16000000 in
set_option maxRecDepth 100000 in
theorem lawJoins {w : World} {c : Nat} {A : Option Addr} {l : List TA} (h : TAs w w.heap.size A l) :
    Calls Try.prog 10 #[.slice A l.length c] w (Ret fun v w' => v = .bool true ∧ Below w.heap.size w w') := by
  have hn := h.1
  have h0 := hide h
  go_enter Try.func10, Try.ntmps10
  by_cases h6 : 6 < l.length
  · have h6i : (6 : Int) < (l.length : Int) := by omega
    go_wp2_with fail
    refine Calls.ret (known_any w) ?_
    rintro v w5 ⟨rfl, hb5⟩
    have hfin := hide hb5
    clear hb5
    go_wp2_with fail
    go_ret
    exact ⟨rfl, hfin.out⟩
  · have h6i : ¬ (6 : Int) < (l.length : Int) := by omega
    go_wp2_with fail
    go_loopw [3] (fun ii wr => ∃ (k : Nat), ii = .int .i64 (k : Int) ∧ k ≤ l.length ∧ Below w.heap.size w wr ∧ Hid (∀ a ∈ l.take k, a.small = true)) (fun ii _ => l.length - (intOf ii).toNat)
    case atStart => exact ⟨0, rfl, Nat.zero_le _, Below.refl _ _, fun a ha => by simp at ha⟩
    case round =>
      obtain ⟨k, rfl, hk, hB, hS⟩ := hrel
      by_cases hlt : k < l.length
      · obtain ⟨b, off, a, A1, c1, A2, c2, A3, c3, rfl, hb, ha, q0, q1, q2, q3, q4, s1, s2, s3⟩ := h.at hlt
        have q0' := (hB.cell (by exact hb)).trans q0
        have q1' := (hB.cell (by exact hb)).trans q1
        have q2' := (hB.cell (by exact hb)).trans q2
        have q3' := (hB.cell (by exact hb)).trans q3
        have q4' := (hB.cell (by exact hb)).trans q4
        have hT : IsTA wr wr.heap.size (.agg #[.int .i64 a.letters, .int .i64 a.states, .slice A1 a.accept.length c1, .slice A2 a.leaves.length c2, .slice A3 a.branches.length c3]) a :=
          IsTA.keep ⟨A1, c1, A2, c2, A3, c3, rfl, s1, s2, s3⟩ (fun _ hp => hB.cell hp) hB.size
        have hHT := hide hT
        have hHB := hide hB
        have hzB := hB.size
        have hA := hide ha
        clear q0 q1 q2 q3 q4 s1 s2 s3 hT ha hB
        go_wp2_with fail
        refine Calls.ret (small_any hHT.out) ?_
        rintro v w5 ⟨rfl, hb5⟩
        have hb05 := hide (hHB.out.trans (hb5.mono hzB))
        clear hb5
        cases hsa : a.small with
        | false =>
          go_wp2_with fail
          refine Calls.ret (known_any w5) ?_
          rintro v w6 ⟨rfl, hb6⟩
          have hfin := hide (hb05.out.trans (hb6.mono hb05.out.size))
          clear hb6
          go_wp2_with fail
          go_ret
          exact ⟨rfl, hfin.out⟩
        | true =>
          have hSA := hide hsa
          clear hsa
          go_wp2_with fail
          refine ⟨⟨k + 1, by go_num, by omega, hb05.out, fun b hb => ?_⟩, by simp [intOf]; omega⟩
          rw [List.take_add_one, hA.out, List.mem_append] at hb
          rcases hb with hb | hb
          · exact hS.out b hb
          · simp at hb
            rw [hb]
            exact hSA.out
      · obtain rfl : k = l.length := by omega
        have hbr := hide (fun (a : TA) (ha : a ∈ l) => small_branches (hS.out a (by rw [List.take_length]; exact ha)))
        have hb00 := hide hB
        have hT0 := hide (h0.out.keep (fun _ hp => hB.cell hp) hB.size)
        have hl1000 : l.length ≤ 1000 := by omega
        clear hB h
        go_wp2_with fail
        refine Calls.ret (union_any hT0.out hbr.out hl1000) ?_
        rintro v w1 ⟨hb1, hR⟩
        obtain ⟨v1, e1, p1, rfl, hQ1, hI1⟩ := hR.rel
        have hIH1 := hide hI1
        have hQH1 := hide hQ1
        obtain ⟨P1, a1, Q1, b1, R1, d1, rfl, -, -, -⟩ := hI1
        obtain ⟨w2, hw1, hbb1, hBB1, hkk1⟩ := box_blk w1 #[.int .i64 p1.letters, .int .i64 p1.states, .slice P1 p1.accept.length a1, .slice Q1 p1.leaves.length b1, .slice R1 p1.branches.length d1] 26
        have hb01 := hide (hb00.out.trans ((hb1.trans (hbb1.mono hb1.size)).mono hb00.out.size))
        have hT1 := hide (h0.out.keep (fun _ hp => hb01.out.cell hp) hb01.out.size)
        have hJ1 := hide (hIH1.out.keep (fun _ hp => hbb1.cell hp) hbb1.size)
        have hl1 := hBB1.lt
        have hstep1 := hide (hb1.trans (hbb1.mono hb1.size))
        have hB1 := hide hBB1
        clear hb1 hbb1 hBB1 hkk1
        go_wp2_with fail
        refine Calls.ret (refunion_any hT1.out hl1000) ?_
        rintro v w3 ⟨hb2, hR⟩
        obtain ⟨v2, e2', p2', rfl, hQ2, hO2⟩ := hR
        have hI2 := hO2.ta
        obtain ⟨rfl, rfl⟩ := JoinQ.unique hQH1.out hQ2
        have hIH2 := hide hI2
        have hQH2 := hide hQ2
        obtain ⟨P2, a2, Q2, b2, R2, d2, rfl, -, -, -⟩ := hI2
        obtain ⟨w4, hw2, hbb2, hBB2, hkk2⟩ := box_blk w3 #[.int .i64 p1.letters, .int .i64 p1.states, .slice P2 p1.accept.length a2, .slice Q2 p1.leaves.length b2, .slice R2 p1.branches.length d2] 26
        have hb02 := hide (hb01.out.trans ((hb2.trans (hbb2.mono hb2.size)).mono hb01.out.size))
        have hT2 := hide (h0.out.keep (fun _ hp => hb02.out.cell hp) hb02.out.size)
        have hJ2 := hide (hIH2.out.keep (fun _ hp => hbb2.cell hp) hbb2.size)
        have hl2 := hBB2.lt
        have hstep2 := hide (hb2.trans (hbb2.mono hb2.size))
        have hB2 := hide hBB2
        clear hb2 hbb2 hBB2 hkk2
        go_wp2_with fail
        refine Calls.ret (inter_any hT2.out hbr.out hl1000) ?_
        rintro v w5 ⟨hb3, hR⟩
        obtain ⟨v3, e3, p3, rfl, hQ3, hI3⟩ := hR.rel
        have hIH3 := hide hI3
        have hQH3 := hide hQ3
        obtain ⟨P3, a3, Q3, b3, R3, d3, rfl, -, -, -⟩ := hI3
        obtain ⟨w6, hw3, hbb3, hBB3, hkk3⟩ := box_blk w5 #[.int .i64 p3.letters, .int .i64 p3.states, .slice P3 p3.accept.length a3, .slice Q3 p3.leaves.length b3, .slice R3 p3.branches.length d3] 26
        have hb03 := hide (hb02.out.trans ((hb3.trans (hbb3.mono hb3.size)).mono hb02.out.size))
        have hT3 := hide (h0.out.keep (fun _ hp => hb03.out.cell hp) hb03.out.size)
        have hJ3 := hide (hIH3.out.keep (fun _ hp => hbb3.cell hp) hbb3.size)
        have hl3 := hBB3.lt
        have hstep3 := hide (hb3.trans (hbb3.mono hb3.size))
        have hB3 := hide hBB3
        clear hb3 hbb3 hBB3 hkk3
        go_wp2_with fail
        refine Calls.ret (refinter_any hT3.out hl1000) ?_
        rintro v w7 ⟨hb4, hR⟩
        obtain ⟨v4, e4', p4', rfl, hQ4, hO4⟩ := hR
        have hI4 := hO4.ta
        obtain ⟨rfl, rfl⟩ := JoinQ.unique hQH3.out hQ4
        have hIH4 := hide hI4
        have hQH4 := hide hQ4
        obtain ⟨P4, a4, Q4, b4, R4, d4, rfl, -, -, -⟩ := hI4
        obtain ⟨w8, hw4, hbb4, hBB4, hkk4⟩ := box_blk w7 #[.int .i64 p3.letters, .int .i64 p3.states, .slice P4 p3.accept.length a4, .slice Q4 p3.leaves.length b4, .slice R4 p3.branches.length d4] 26
        have hb04 := hide (hb03.out.trans ((hb4.trans (hbb4.mono hb4.size)).mono hb03.out.size))
        have hT4 := hide (h0.out.keep (fun _ hp => hb04.out.cell hp) hb04.out.size)
        have hJ4 := hide (hIH4.out.keep (fun _ hp => hbb4.cell hp) hbb4.size)
        have hl4 := hBB4.lt
        have hstep4 := hide (hb4.trans (hbb4.mono hb4.size))
        have hB4 := hide hBB4
        clear hb4 hbb4 hBB4 hkk4
        have hs28 := hide (hstep2.out.trans ((hstep3.out.trans (hstep4.out.mono hstep3.out.size)).mono hstep2.out.size))
        have hs48 := hide (hstep3.out.trans (hstep4.out.mono hstep3.out.size))
        have hK1 := hide (hJ1.out.keep (fun _ hp => hs28.out.cell hp) hs28.out.size)
        have hK2 := hide (hJ2.out.keep (fun _ hp => hs48.out.cell hp) hs48.out.size)
        have hK3 := hide (hJ3.out.keep (fun _ hp => hstep4.out.cell hp) hstep4.out.size)
        have hcc1 := (hB1.out.below hs28.out).cell
        have hcc2 := (hB2.out.below hs48.out).cell
        have hBe3 := hide (hB3.out.below hstep4.out)
        have hcc3 := hBe3.out.cell
        have hcc4 := hB4.out.cell
        go_wp2_with fail
        refine Calls.ret (sameAutomaton_any hK1.out hK2.out) ?_
        rintro v w9 ⟨rfl, hb9⟩
        rw [decide_eq_true rfl]
        have hK39 := hide (hK3.out.keep (fun _ hp => hb9.cell hp) hb9.size)
        have hK49 := hide (hJ4.out.keep (fun _ hp => hb9.cell hp) hb9.size)
        have hcd3 := (hBe3.out.below hb9).cell
        have hcd4 := (hB4.out.below hb9).cell
        have hb09 := hide (hb04.out.trans (hb9.mono hb04.out.size))
        clear hb9 hcc1 hcc2 hcc3 hcc4
        go_wp2_with fail
        refine Calls.ret (sameAutomaton_any hK39.out hK49.out) ?_
        rintro v w10 ⟨rfl, hb10⟩
        rw [decide_eq_true rfl]
        have hb010 := hide (hb09.out.trans (hb10.mono hb09.out.size))
        clear hb10 hcd3 hcd4
        go_wp2_with fail
        refine Calls.ret (known_any w10) ?_
        rintro v w11 ⟨rfl, hb11⟩
        have hfin := hide (hb010.out.trans (hb11.mono hb010.out.size))
        clear hb11
        go_wp2_with fail
        go_ret
        exact ⟨rfl, hfin.out⟩
end Go.Proofs.Ytnimlcbgeiajiaa
