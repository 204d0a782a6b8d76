/-
  Part XX of a proof.
-/
import Derived.Test.YtbjdgepfhhafjaaDoorXA
import Derived.Test.YtbjdgepfhhafjaaDoorXJ
import Derived.Test.YtbjdgepfhhafjaaDoorXK
import Derived.Test.YtbjdgepfhhafjaaDoorXS
import Derived.Test.YtbjdgepfhhafjaaDoorXT
set_option maxHeartbeats 16000000
set_option maxRecDepth 100000
set_option linter.unusedVariables false
set_option linter.unusedSimpArgs false
namespace Go.Proofs.YtbjdgepfhhafjaaDoor
open Go.RowKit
attribute [-go_sem] loadCellsFrom storeCells
def BoolIf (v : Value) (Q : Prop) : Prop := ∃ b : Bool, v = .bool b ∧ (b = false → Q)
theorem bigRule_any {w : World} {cs : List Value} {r : RuleD} (h : RuleIs w w.heap.size cs r) (hnm : r.name.size ≤ 9223372036854775807) :
  Calls Tryd.prog 15 #[.agg cs.toArray] w (Ret fun v w' => BoolIf v (r.Small ∧ r.name.size ≤ 500) ∧ Below w.heap.size w w') := by
 obtain ⟨E1, f1, E2, f2, E3, f3, E4, f4, E5, f5, E6, f6, E7, f7, E8, f8, ⟨hrsz, hr0, hr1, hr2, hr3, hr4, hr5, hr6, hr7, hr8, hr9, hr10, hr11, hr12, hr13, hr14, hr15, hr16, hr17⟩, ⟨s1, s2, s3, s4, s5, s6, s7, s8⟩⟩ := h.cells
 obtain ⟨w1, hw1, hb1, hB1, hk1⟩ := box_blk w cs.toArray 51
 have hc1 := hB1.cell
 have hb01 := hide hb1
 have t1 := s1.1
 have t2 := s2.1
 have t3 := s3.1
 have t4 := s4.1
 have t5 := s5.1
 have t6 := s6.1
 have t7 := s7.1
 have t8 := s8.1
 generalize cs.toArray = rc at *
 unfold RuleD.Small
 generalize r.resp.length = n1 at *
 generalize r.guards.length = n2 at *
 generalize r.ex.length = n3 at *
 generalize r.fa.length = n4 at *
 generalize r.send.length = n5 at *
 generalize r.left.length = n6 at *
 generalize r.right.length = n7 at *
 generalize r.parent.length = n8 at *
 clear hB1 hk1 hb1 hrsz h s1 s2 s3 s4 s5 s6 s7 s8 hr1 hr2 hr3 hr4 hr5 hr10 hr11 hr13 hr17
 obtain ⟨z, hz⟩ : ∃ z, z = r.name := ⟨_, rfl⟩
 rw [← hz] at hr0 hnm ⊢
 clear hz
 go_enter Tryd.func15, Tryd.ntmps15
 go_wp2_with fail
 all_goals
  go_ret
  refine ⟨⟨_, rfl, fun hb => ?_⟩, hb01.out⟩
  first
   | (exact absurd hb (by decide))
   | (simp at hb; omega)
   | (simp at hb; done)
theorem bigNames_any {w : World} {A : Option Addr} {c : Nat} {l : List ByteArray} (h : Sl w w.heap.size 1 encS A l) (hsz : ∀ s ∈ l, s.size ≤ 9223372036854775807) :
  Calls Tryd.prog 16 #[.slice A l.length c] w (Ret fun v w' => BoolIf v (∀ s ∈ l, s.size ≤ 500) ∧ w = w') := by
 have hH := hide h
 have hn := h.1
 have hzH := hide hsz
 clear h hsz
 go_enter Tryd.func16, Tryd.ntmps16
 go_wp2_with fail
 go_loopw [3] (fun ii wr => ∃ (k : Nat), ii = .int .i64 (k : Int) ∧ k ≤ l.length ∧ w = wr ∧ Hid (∀ s ∈ l.take k, s.size ≤ 500)) (fun ii _ => l.length - (intOf ii).toNat)
 case atStart => exact ⟨0, rfl, Nat.zero_le _, (by first | rfl | trivial), by intro s hs; simp at hs⟩
 case round =>
  obtain ⟨k, rfl, hk, rfl, hE⟩ := hrel
  by_cases hlt : k < l.length
  ·obtain ⟨b, off, e, hA, hbk, he, hc⟩ := hH.out.at hlt
   have d0 := hc 0 (by omega)
   simp only [Nat.add_zero, Nat.mul_one, encS] at d0
   have heH := hide he
   have hes := hzH.out e (List.mem_of_getElem? he)
   subst hA
   clear hc he
   by_cases h5 : (500 : Int) < (e.size : Int)
   ·go_wp2_with fail
    go_ret
    exact ⟨⟨true, rfl, fun hb => absurd hb (by decide)⟩, rfl⟩
   ·have hnx := hide (show ∀ s ∈ l.take (k + 1), s.size ≤ 500 from by
     rw [show l.take (k + 1) = l.take k ++ [e] by rw [List.take_add_one, heH.out]; rfl]
     intro s hs
     rcases List.mem_append.1 hs with hs | hs
     ·exact hE.out s hs
     ·rw [List.mem_singleton.1 hs]
      omega)
    go_wp2_with fail
    exact ⟨⟨k + 1, by go_num, by omega, (by first | rfl | trivial), hnx.out⟩, by simp [intOf]; omega⟩
  ·have hE2 := hE.out
   rw [List.take_of_length_le (by omega)] at hE2
   have hE3 := hide hE2
   clear hE2 hE
   go_wp2_with fail
   go_ret
   exact ⟨⟨false, rfl, fun _ => hE3.out⟩, rfl⟩
end Go.Proofs.YtbjdgepfhhafjaaDoor
namespace Go.Proofs.YtbjdgepfhhafjaaDoor
open Go.RowKit
attribute [-go_sem] loadCellsFrom storeCells
structure ProtD.Fits (p : ProtD) : Prop where
 name : p.name.size ≤ 9223372036854775807
 names : ∀ s ∈ names3 p, s.size ≤ 9223372036854775807
 rules : ∀ r ∈ p.rules, r.name.size ≤ 9223372036854775807
theorem bigProt_any {w : World} {cs : List Value} {p : ProtD} (h : ProtIs w w.heap.size cs p) (hf : p.Fits) :
  Calls Tryd.prog 8 #[.agg cs.toArray] w (Ret fun v w' => BoolIf v p.Small ∧ Below w.heap.size w w') := by
 obtain ⟨A1, c1, A2, c2, A3, c3, A4, c4, A5, c5, A6, c6, A7, c7, hpsz, hp0, hp1, hp2, hp3, hp4, hp5, hp6, hp7, hp8, hp9, h1, h2, h3, h4, h5, h6, h7, hcap⟩ := h.cells
 have hnm := hf.name
 have t1 := h1.1
 have t2 := h2.1
 have t3 := h3.1
 have t4 := h4.1
 have t5 := h5.1
 have t6 := h6.1
 have t7 := h7.1
 obtain ⟨w1, hw1, hb1, hB1, hk1⟩ := box_blk w cs.toArray 27
 have hBH := hide hB1
 have hb01 := hide hb1
 have hc1 := hB1.cell
 have hnames1 := hide (show ∀ s ∈ p.states, s.size ≤ 9223372036854775807 from fun s hs => hf.names s (by simp [names3, hs]))
 have hnames2 := hide (show ∀ s ∈ p.messages, s.size ≤ 9223372036854775807 from fun s hs => hf.names s (by simp [names3, hs]))
 have hnames3 := hide (show ∀ s ∈ p.values, s.size ≤ 9223372036854775807 from fun s hs => hf.names s (by simp [names3, hs]))
 have hrn := hide hf.rules
 have hRows := hide h7
 have hS1 := hide h1
 have hS2 := hide h2
 have hS3 := hide h3
 generalize cs.toArray = pc at *
 obtain ⟨ns, hns⟩ : ∃ n, n = p.states.length := ⟨_, rfl⟩
 obtain ⟨nm, hnm_⟩ : ∃ n, n = p.messages.length := ⟨_, rfl⟩
 obtain ⟨nv, hnv⟩ : ∃ n, n = p.values.length := ⟨_, rfl⟩
 obtain ⟨nr, hnr⟩ : ∃ n, n = p.res.length := ⟨_, rfl⟩
 obtain ⟨ni, hni⟩ : ∃ n, n = p.initial.length := ⟨_, rfl⟩
 obtain ⟨nl, hnl⟩ : ∃ n, n = p.leader.length := ⟨_, rfl⟩
 obtain ⟨nu, hnu⟩ : ∃ n, n = p.rules.length := ⟨_, rfl⟩
 obtain ⟨nz, hnz⟩ : ∃ n, n = p.name.size := ⟨_, rfl⟩
 have hLH := hide (show ns = p.states.length ∧ nm = p.messages.length ∧ nv = p.values.length ∧ nr = p.res.length ∧ ni = p.initial.length ∧ nl = p.leader.length ∧ nu = p.rules.length ∧ nz = p.name.size from ⟨hns, hnm_, hnv, hnr, hni, hnl, hnu, hnz⟩)
 rw [← hns] at hp2 t1
 rw [← hnm_] at hp3 t2
 rw [← hnv] at hp4 t3
 rw [← hnr] at hp6 t4
 rw [← hni] at hp7 t5
 rw [← hnl] at hp8 t6
 rw [← hnu] at hp9 t7 hcap
 clear hns hnm_ hnv hnr hni hnl hnu h h1 h2 h3 h4 h5 h6 h7 hB1 hk1 hb1 hf hpsz
 by_cases hB0 : 500 < (p.name.size : Int)
 case pos =>
  go_enter Tryd.func8, Tryd.ntmps8
  go_wp2_with fail
  go_ret
  exact ⟨⟨true, rfl, fun hb => absurd hb (by decide)⟩, hb01.out⟩
 by_cases hB1 : 60 < (ns : Int)
 case pos =>
  go_enter Tryd.func8, Tryd.ntmps8
  go_wp2_with fail
  go_ret
  exact ⟨⟨true, rfl, fun hb => absurd hb (by decide)⟩, hb01.out⟩
 by_cases hB2 : 60 < (nm : Int)
 case pos =>
  go_enter Tryd.func8, Tryd.ntmps8
  go_wp2_with fail
  go_ret
  exact ⟨⟨true, rfl, fun hb => absurd hb (by decide)⟩, hb01.out⟩
 by_cases hB3 : 60 < (nv : Int)
 case pos =>
  go_enter Tryd.func8, Tryd.ntmps8
  go_wp2_with fail
  go_ret
  exact ⟨⟨true, rfl, fun hb => absurd hb (by decide)⟩, hb01.out⟩
 by_cases hB4 : 60 < (nr : Int)
 case pos =>
  go_enter Tryd.func8, Tryd.ntmps8
  go_wp2_with fail
  go_ret
  exact ⟨⟨true, rfl, fun hb => absurd hb (by decide)⟩, hb01.out⟩
 by_cases hB5 : 60 < (ni : Int)
 case pos =>
  go_enter Tryd.func8, Tryd.ntmps8
  go_wp2_with fail
  go_ret
  exact ⟨⟨true, rfl, fun hb => absurd hb (by decide)⟩, hb01.out⟩
 by_cases hB6 : 60 < (nl : Int)
 case pos =>
  go_enter Tryd.func8, Tryd.ntmps8
  go_wp2_with fail
  go_ret
  exact ⟨⟨true, rfl, fun hb => absurd hb (by decide)⟩, hb01.out⟩
 by_cases hB7 : 30 < (nu : Int)
 case pos =>
  go_enter Tryd.func8, Tryd.ntmps8
  go_wp2_with fail
  go_ret
  exact ⟨⟨true, rfl, fun hb => absurd hb (by decide)⟩, hb01.out⟩
 go_enter Tryd.func8, Tryd.ntmps8
 go_wp2_with fail
 have hAll := hide (show nz ≤ 500 ∧ ns ≤ 60 ∧ nm ≤ 60 ∧ nv ≤ 60 ∧ nr ≤ 60 ∧ ni ≤ 60 ∧ nl ≤ 60 ∧ nu ≤ 30 from by have := hnz; omega)
 clear hB0 hB1 hB2 hB3 hB4 hB5 hB6 hB7
 go_loopw [3] (fun ii wr => ∃ (k : Nat), ii = .int .i64 (k : Int) ∧ k ≤ nu ∧ Hid (Below w1.heap.size w1 wr) ∧ Hid (∀ r ∈ p.rules.take k, r.Small ∧ r.name.size ≤ 500)) (fun ii _ => nu - (intOf ii).toNat)
 case atStart => exact ⟨0, rfl, Nat.zero_le _, Below.refl _ _, by intro r hr; simp at hr⟩
 case round =>
  obtain ⟨k, rfl, hk, hbr, hE⟩ := hrel
  have hc2 := (hBH.out.below hbr.out).cell
  have hb02 := hide (hb01.out.trans (hbr.out.mono hb01.out.size))
  by_cases hlt : k < nu
  ·obtain ⟨r, hr⟩ : ∃ r, p.rules[k]? = some r := ⟨_, List.getElem?_eq_getElem (by have := hLH.out.2.2.2.2.2.2.1; omega)⟩
   obtain ⟨b, off, rc, hA, hbk, hC, hcs, hlc⟩ := rows_rule (hRows.out.keep (w' := wr) (B' := wr.heap.size) (R' := RuleIs wr wr.heap.size) (fun _ hp => hb02.out.cell hp) (fun _ _ h => h.keep (fun _ hp => hb02.out.cell hp) hb02.out.size) hb02.out.size) hr
   have hrH := hide hr
   have hcall := hide (bigRule_any (cs := rc.toList) hC.is (hrn.out r (List.mem_of_getElem? hr)))
   subst hA
   clear hcs hC hr
   go_wp2_with fail
   refine Calls.ret hcall.out ?_
   rintro v w3 ⟨⟨bb, rfl, hbb⟩, hb3⟩
   have hbbH := hide hbb
   have hb13 := hide (hbr.out.trans (hb3.mono hbr.out.size))
   clear hbb hb3
   cases bb
   ·have hnx := hide (show ∀ r ∈ p.rules.take (k + 1), r.Small ∧ r.name.size ≤ 500 from by
     rw [show p.rules.take (k + 1) = p.rules.take k ++ [r] by rw [List.take_add_one, hrH.out]; rfl]
     intro s hs
     rcases List.mem_append.1 hs with hs | hs
     ·exact hE.out s hs
     ·rw [List.mem_singleton.1 hs]
      exact hbbH.out rfl)
    go_wp2_with fail
    exact ⟨⟨k + 1, by go_num, by omega, hb13.out, hnx.out⟩, by simp [intOf]; omega⟩
   ·go_wp2_with fail
    go_ret
    exact ⟨⟨true, rfl, fun hb => absurd hb (by decide)⟩, hb01.out.trans (hb13.out.mono hb01.out.size)⟩
  ·have hE2 := hE.out
   rw [List.take_of_length_le (by have := hLH.out.2.2.2.2.2.2.1; omega)] at hE2
   have hE3 := hide hE2
   clear hE2 hE
   have q1 := hide (bigNames_any (c := c1) ((hS1.out.keep (w' := wr) (B' := wr.heap.size) (fun _ hp => hb02.out.cell hp) hb02.out.size)) hnames1.out)
   have q2 := hide (bigNames_any (c := c2) ((hS2.out.keep (w' := wr) (B' := wr.heap.size) (fun _ hp => hb02.out.cell hp) hb02.out.size)) hnames2.out)
   have q3 := hide (bigNames_any (c := c3) ((hS3.out.keep (w' := wr) (B' := wr.heap.size) (fun _ hp => hb02.out.cell hp) hb02.out.size)) hnames3.out)
   rw [← hLH.out.1] at q1
   rw [← hLH.out.2.1] at q2
   rw [← hLH.out.2.2.1] at q3
   go_wp2_with fail
   refine Calls.ret q1.out ?_
   rintro v w' ⟨⟨b1, rfl, hb1⟩, rfl⟩
   have hb1H := hide hb1
   clear hb1
   cases b1
   ·go_wp2_with fail
    refine Calls.ret q2.out ?_
    rintro v w' ⟨⟨b2, rfl, hb2⟩, rfl⟩
    have hb2H := hide hb2
    clear hb2
    cases b2
    ·go_wp2_with fail
     refine Calls.ret q3.out ?_
     rintro v w' ⟨⟨b3, rfl, hb3⟩, rfl⟩
     have hb3H := hide hb3
     clear hb3
     go_wp2_with fail
     go_ret
     refine ⟨⟨b3, rfl, fun hb => ?_⟩, hb02.out⟩
     obtain ⟨e1, e2, e3, e4, e5, e6, e7, e8⟩ := hLH.out
     obtain ⟨f1, f2, f3, f4, f5, f6, f7, f8⟩ := hAll.out
     exact ⟨by omega, by omega, by omega, by omega, by omega, by omega, by omega, by omega, hE3.out, fun s hs => by
      simp only [names3, List.mem_append] at hs
      rcases hs with (hs | hs) | hs
      ·exact hb1H.out trivial s hs
      ·exact hb2H.out trivial s hs
      ·exact hb3H.out hb s hs⟩
    ·go_wp2_with fail
     go_ret
     exact ⟨⟨true, rfl, fun hb => absurd hb (by decide)⟩, hb02.out⟩
   ·go_wp2_with fail
    go_ret
    exact ⟨⟨true, rfl, fun hb => absurd hb (by decide)⟩, hb02.out⟩
def PropD.Fits (q : PropD) : Prop := q.name.size ≤ 9223372036854775807
theorem bigProp_any {w : World} {cs : List Value} {q : PropD} (h : PropIs w w.heap.size cs q) (hf : q.Fits) :
  Calls Tryd.prog 9 #[.agg cs.toArray] w (Ret fun v w' => BoolIf v q.Small ∧ Below w.heap.size w w') := by
 obtain ⟨B1, d1, B2, d2, B3, d3, B4, d4, hqsz, hq0, hq1, hq2, hq3, hq4, hq5, k1, k2, k3, k4⟩ := h.cells
 have hnm : q.name.size ≤ 9223372036854775807 := hf
 have t1 := k1.1
 have t2 := k2.1
 have t3 := k3.1
 have t4 := k4.1
 obtain ⟨w1, hw1, hb1, hB1, hk1⟩ := box_blk w cs.toArray 30
 have hBH := hide hB1
 have hb01 := hide hb1
 have hc1 := hB1.cell
 have hlt1 := hB1.lt
 have hRows := hide k2
 generalize cs.toArray = pc at *
 obtain ⟨nt, hnt⟩ : ∃ n, n = q.start.length := ⟨_, rfl⟩
 obtain ⟨nb, hnb⟩ : ∃ n, n = q.bad.length := ⟨_, rfl⟩
 obtain ⟨na, hna⟩ : ∃ n, n = q.adj.length := ⟨_, rfl⟩
 obtain ⟨ng, hng⟩ : ∃ n, n = q.goal.length := ⟨_, rfl⟩
 have hLH := hide (show nt = q.start.length ∧ nb = q.bad.length ∧ na = q.adj.length ∧ ng = q.goal.length from ⟨hnt, hnb, hna, hng⟩)
 rw [← hnt] at hq2 t1
 rw [← hnb] at hq3 t2
 rw [← hna] at hq4 t3
 rw [← hng] at hq5 t4
 clear hnt hnb hna hng h k1 k2 k3 k4 hB1 hk1 hb1 hf hqsz
 by_cases hB0 : 500 < (q.name.size : Int)
 case pos =>
  go_enter Tryd.func9, Tryd.ntmps9
  go_wp2_with fail
  go_ret
  exact ⟨⟨true, rfl, fun hb => absurd hb (by decide)⟩, hb01.out⟩
 by_cases hB1 : 60 < (nt : Int)
 case pos =>
  go_enter Tryd.func9, Tryd.ntmps9
  go_wp2_with fail
  go_ret
  exact ⟨⟨true, rfl, fun hb => absurd hb (by decide)⟩, hb01.out⟩
 by_cases hB2 : 60 < (nb : Int)
 case pos =>
  go_enter Tryd.func9, Tryd.ntmps9
  go_wp2_with fail
  go_ret
  exact ⟨⟨true, rfl, fun hb => absurd hb (by decide)⟩, hb01.out⟩
 by_cases hB3 : 60 < (na : Int)
 case pos =>
  go_enter Tryd.func9, Tryd.ntmps9
  go_wp2_with fail
  go_ret
  exact ⟨⟨true, rfl, fun hb => absurd hb (by decide)⟩, hb01.out⟩
 by_cases hB4 : 60 < (ng : Int)
 case pos =>
  go_enter Tryd.func9, Tryd.ntmps9
  go_wp2_with fail
  go_ret
  exact ⟨⟨true, rfl, fun hb => absurd hb (by decide)⟩, hb01.out⟩
 go_enter Tryd.func9, Tryd.ntmps9
 go_wp2_with fail
 have hAll := hide (show q.name.size ≤ 500 ∧ nt ≤ 60 ∧ nb ≤ 60 ∧ na ≤ 60 ∧ ng ≤ 60 from by omega)
 clear hB0 hB1 hB2 hB3 hB4
 go_loopw [3] (fun ii wr => ∃ (k : Nat), ii = .int .i64 (k : Int) ∧ k ≤ nb ∧ w1 = wr ∧ Hid (∀ c ∈ q.bad.take k, c.states.length ≤ 60)) (fun ii _ => nb - (intOf ii).toNat)
 case atStart => exact ⟨0, rfl, Nat.zero_le _, (by first | rfl | trivial), by intro r hr; simp at hr⟩
 case round =>
  obtain ⟨k, rfl, hk, rfl, hE⟩ := hrel
  by_cases hlt : k < nb
  ·obtain ⟨b2, off2, c, cs2, hA2, hbk2, hcc, hsz2, hcs2, hRc⟩ := (hRows.out.keep (w' := w1) (B' := w.heap.size) (R' := CountIs w1 w.heap.size) (fun _ hp => hb01.out.cell hp) (fun _ _ h => h.keep (fun _ hp => hb01.out.cell hp) (Nat.le_refl _)) (Nat.le_refl _)).at (i := k) (by have := hLH.out.2.1; omega)
   obtain ⟨C1, g1, rfl, hSc⟩ := hRc
   have d0 := hcs2 0 _ rfl
   simp only [Nat.add_zero] at d0
   have hccH := hide hcc
   have hcl := hSc.1
   obtain ⟨nc, hnc⟩ : ∃ n, n = c.states.length := ⟨_, rfl⟩
   have hncH := hide hnc
   rw [← hnc] at d0 hcl
   subst hA2
   clear hcs2 hcc hSc hnc
   by_cases h6 : (60 : Int) < (nc : Int)
   ·go_wp2_with fail
    go_ret
    exact ⟨⟨true, rfl, fun hb => absurd hb (by decide)⟩, hb01.out⟩
   ·have hnx := hide (show ∀ c ∈ q.bad.take (k + 1), c.states.length ≤ 60 from by
     rw [show q.bad.take (k + 1) = q.bad.take k ++ [c] by rw [List.take_add_one, hccH.out]; rfl]
     intro s hs
     rcases List.mem_append.1 hs with hs | hs
     ·exact hE.out s hs
     ·rw [List.mem_singleton.1 hs, ← hncH.out]
      omega)
    go_wp2_with fail
    exact ⟨⟨k + 1, by go_num, by omega, (by first | rfl | trivial), hnx.out⟩, by simp [intOf]; omega⟩
  ·have hE2 := hE.out
   rw [List.take_of_length_le (by have := hLH.out.2.1; omega)] at hE2
   have hE3 := hide hE2
   clear hE2 hE
   go_wp2_with fail
   go_ret
   refine ⟨⟨false, rfl, fun _ => ?_⟩, hb01.out⟩
   obtain ⟨e1, e2, e3, e4⟩ := hLH.out
   obtain ⟨f1, f2, f3, f4, f5⟩ := hAll.out
   exact ⟨f1, by omega, by omega, by omega, by omega, hE3.out⟩
theorem big_any {w : World} {cs ds : List Value} {p : ProtD} {q : PropD} (h : ProtIs w w.heap.size cs p) (h' : PropIs w w.heap.size ds q) (hf : p.Fits) (hg : q.Fits) :
  Calls Tryd.prog 4 #[.agg cs.toArray, .agg ds.toArray] w (Ret fun v w' => BoolIf v (p.Small ∧ q.Small) ∧ Below w.heap.size w w') := by
 have hpsz := h.rules_at.1
 obtain ⟨B1, d1, B2, d2, B3, d3, B4, d4, hqsz, -⟩ := h'.cells
 obtain ⟨w1, hw1, hb1, hB1, hk1⟩ := box_blk w cs.toArray 27
 obtain ⟨w2, hw2, hb2, hB2, hk2⟩ := box_blk w1 ds.toArray 30
 have hb02 := hide (hb1.trans (hb2.mono hb1.size))
 have hP2 := hide (h.keep (w' := w2) (B' := w2.heap.size) (fun _ hp => hb02.out.cell hp) hb02.out.size)
 have hQ2 := hide (h'.keep (w' := w2) (B' := w2.heap.size) (fun _ hp => hb02.out.cell hp) hb02.out.size)
 have hl2 := blk_load (hB1.below hb2) hpsz
 have hB2H := hide hB2
 have hcall := hide (bigProt_any hP2.out hf)
 have hcall2 : Hid (∀ wx, Below w2.heap.size w2 wx → Calls Tryd.prog 9 #[.agg ds.toArray] wx (Ret fun v w' => BoolIf v q.Small ∧ Below wx.heap.size wx w')) := hide (fun wx hx => bigProp_any (hQ2.out.keep (fun _ hp => hx.cell hp) hx.size) hg)
 generalize cs.toArray = pc at *
 generalize ds.toArray = qc at *
 have hqszH := hide hqsz
 clear h h' hb1 hb2 hB1 hB2 hk1 hk2 hf hg hqsz hpsz
 go_enter Tryd.func4, Tryd.ntmps4
 go_wp2_with fail
 refine Calls.ret hcall.out ?_
 rintro v w3 ⟨⟨b1, rfl, hb1⟩, hb3⟩
 have hb1H := hide hb1
 have hl3 := blk_load (hB2H.out.below hb3) hqszH.out
 have hc2x := hide (hcall2.out _ hb3)
 have hb03 := hide (hb02.out.trans (hb3.mono hb02.out.size))
 clear hb1 hb3
 cases b1
 ·go_wp2_with fail
  refine Calls.ret hc2x.out ?_
  rintro v w4 ⟨⟨b2, rfl, hb2⟩, hb4⟩
  have hb2H := hide hb2
  have hb04 := hide (hb03.out.trans (hb4.mono hb03.out.size))
  clear hb2 hb4
  go_wp2_with fail
  go_ret
  exact ⟨⟨b2, rfl, fun hb => ⟨hb1H.out trivial, hb2H.out hb⟩⟩, hb04.out⟩
 ·go_wp2_with fail
  go_ret
  exact ⟨⟨true, rfl, fun hb => absurd hb (by decide)⟩, hb03.out⟩
end Go.Proofs.YtbjdgepfhhafjaaDoor
namespace Go.Proofs.YtbjdgepfhhafjaaDoor
open Go.RowKit
attribute [-go_sem] loadCellsFrom storeCells
theorem refPropValidate_any {w : World} {cs ds : List Value} {p : ProtD} {q : PropD} (h : ProtIs w w.heap.size cs p) (h' : PropIs w w.heap.size ds q) (hsm : p.Small) (hsq : q.Small) (hT : SpOK w) :
  Calls Tryd.prog 14 #[.agg cs.toArray, .agg ds.toArray] w (Ret fun v w' => v = .int .i64 (propE nameOK p q) ∧ Below w.heap.size w w') := by
 by_cases h0 : protE nameOK p = 0
 case neg => exact rp_a h h' hsm hsq hT (hide rfl) (by simpa using h0)
 cases hok : nameOK q.name with
 | false => exact rp_b h h' hsm hsq hT h0 hok
 | true =>
  by_cases k1 : q.kind = 1
  ·exact rp_1 h h' hsm hsq hT h0 hok k1
  ·by_cases k2 : q.kind = 2
   ·exact rp_2 h h' hsm hsq hT h0 hok k2
   ·exact rp_c h h' hsm hsq hT h0 hok k1 k2
theorem refCheck_any {w : World} {cs ds : List Value} {p : ProtD} {q : PropD} (h : ProtIs w w.heap.size cs p) (h' : PropIs w w.heap.size ds q) (hsm : p.Small) (hsq : q.Small) (hT : SpOK w) :
  Calls Tryd.prog 7 #[.agg cs.toArray, .agg ds.toArray] w (Ret fun v w' => v = .int .i64 (checkE nameOK p q) ∧ Below w.heap.size w w') := by
 obtain ⟨B1, d1, B2, d2, B3, d3, B4, d4, hqsz, hq0, hq1, hq2, hq3, hq4, hq5, k1, k2, k3, k4⟩ := h'.cells
 obtain ⟨A1, c1, A2, c2, A3, c3, A4, c4, A5, c5, A6, c6, A7, c7, hpsz, hp0, hp1, -⟩ := prot_cells h
 obtain ⟨w1, hw1, hb1, hB1, hk1⟩ := box_blk w cs.toArray 27
 obtain ⟨w2, hw2, hb2, hB2, hk2⟩ := box_blk w1 ds.toArray 30
 have hb02 := hide (hb1.trans (hb2.mono hb1.size))
 have hX2 := hide (show PQX w2 w.heap.size w1.heap.size cs.toArray ds.toArray p q from ⟨h.keep (fun _ hp => hb02.out.cell hp) hb02.out.size, h'.keep (fun _ hp => hb02.out.cell hp) hb02.out.size, hB1.below hb2, hB2, hT.below hb02.out⟩)
 generalize hpc : cs.toArray = pc at *
 generalize hqc : ds.toArray = qc at *
 obtain ⟨e5, he5⟩ : ∃ e, Hid (propE nameOK p q = e) := ⟨_, rfl⟩
 have hval : ∀ wx, Hid (PQX wx w.heap.size w1.heap.size pc qc p q) → Calls Tryd.prog 14 #[.agg pc, .agg qc] wx (Ret fun v w' => v = .int .i64 e5 ∧ Below wx.heap.size wx w') := fun wx hx => by
  rw [← he5.out]
  exact refPropValidate_any hx.out.pr hx.out.qr hsm hsq hx.out.tab
 have hvalH := hide hval
 have hl22 := blk_load hX2.out.b2 hpsz
 have hl32 := blk_load hX2.out.b3 hqsz
 obtain ⟨kq, hkq⟩ : ∃ n, n = q.kind := ⟨_, rfl⟩
 obtain ⟨kt, hkt⟩ : ∃ n, n = p.topo := ⟨_, rfl⟩
 rw [← hkq] at hq1
 rw [← hkt] at hp1
 have hchk := hide (show checkE nameOK p q = orE e5 (whenE (!decide (kt = 4) || !decide (kq = 1)) 7) from by
  unfold checkE
  rw [he5.out, hkt, hkq])
 clear k1 k2 k3 k4 h h' hsm hsq hb1 hb2 hB1 hB2 hk1 hk2 hpc hqc hT hpsz hqsz hval hq0 hq2 hq3 hq4 hq5 hkq hkt hp0
 go_enter Tryd.func7, Tryd.ntmps7
 go_wp2_with fail
 refine Calls.ret (hvalH.out _ hX2) ?_
 rintro v w3 ⟨rfl, hb3⟩
 have hX3 := hide (hX2.out.at hb3)
 have hc23 := hX3.out.b2.cell
 have hc33 := hX3.out.b3.cell
 have hb03 := hide (hb02.out.trans (hb3.mono hb02.out.size))
 clear hb3
 by_cases h5 : e5 = 0
 case neg =>
  have hq5 : (e5 != 0) = true := by simp [h5]
  have h5H := hide h5
  clear h5
  go_wp2_with fail
  go_ret
  exact ⟨congrArg (Value.int .i64) (hchk.out.trans (orE_ne h5H.out)).symm, hb03.out⟩
 have hq5 : (e5 != 0) = false := by simp [h5]
 have hch2 := hide (show checkE nameOK p q = whenE (!decide (kt = 4) || !decide (kq = 1)) 7 from hchk.out.trans (by rw [h5]; rfl))
 clear h5
 by_cases ht : kt = 4
 ·have g1 : (kt != 4) = false := by simp [ht]
  have HT := hide ht
  clear ht
  by_cases hk : kq = 1
  ·have g2 : (kq != 1) = false := by simp [hk]
   have HK := hide hk
   clear hk
   go_wp2_with fail
   go_ret
   exact ⟨congrArg (Value.int .i64) (hch2.out.trans (by rw [decide_eq_true HT.out, decide_eq_true HK.out]; rfl)).symm, hb03.out⟩
  ·have g2 : (kq != 1) = true := by simp [hk]
   have HK := hide hk
   clear hk
   go_wp2_with fail
   go_ret
   exact ⟨congrArg (Value.int .i64) (hch2.out.trans (by rw [decide_eq_true HT.out, decide_eq_false HK.out]; rfl)).symm, hb03.out⟩
 ·have g1 : (kt != 4) = true := by simp [ht]
  have HT := hide ht
  clear ht
  go_wp2_with fail
  go_ret
  exact ⟨congrArg (Value.int .i64) (hch2.out.trans (by rw [decide_eq_false HT.out]; rfl)).symm, hb03.out⟩
end Go.Proofs.YtbjdgepfhhafjaaDoor
