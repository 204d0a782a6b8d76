/-
  Part PJ of a proof.
-/
import Derived.ArgAppend
import Derived.Test.YtakpmdmjbgipiaaGreatDoorPA
import Derived.Test.YtakpmdmjbgipiaaGreatDoorPI
set_option maxHeartbeats 16000000
set_option maxRecDepth 100000
set_option linter.unusedVariables false
set_option linter.unusedSimpArgs false
namespace Go.Proofs.YtakpmdmjbgipiaaGreatDoor
open Go.RowKit
set_option maxHeartbeats 16000000
set_option maxRecDepth 100000
def accI (ac : List Bool) (q : Nat) : List Int := natL ((List.range q).filter fun j => dac ac j)
theorem accI_all (ac : List Bool) : accI ac ac.length = setL ac := rfl
theorem accI_succ {ac : List Bool} {q : Nat} {b : Bool} (h : ac[q]? = some b) : accI ac (q + 1) = if b then accI ac q ++ [(q : Int)] else accI ac q := by
 unfold accI
 rw [List.range_succ, List.filter_append]
 have : dac ac q = b := getD_some h
 cases b <;> simp [this, natL]
theorem accI_len (ac : List Bool) (q : Nat) : (accI ac q).length ≤ q := by
 unfold accI
 have := List.length_filter_le (fun j => dac ac j) (List.range q)
 simpa [natL] using this
def rowE (t : List (List Nat)) (q k : Nat) : List Edg := (List.range k).map fun x : Nat => ⟨(q : Int), (x : Int), (dnx t q x : Int)⟩
theorem rowE_succ (t : List (List Nat)) (q k : Nat) : rowE t q (k + 1) = rowE t q k ++ [⟨(q : Int), (k : Int), (dnx t q k : Int)⟩] := by simp [rowE, List.range_succ]
def edgE (L : Nat) (t : List (List Nat)) (q : Nat) : List Edg := (List.range q).flatMap fun q => rowE t q L
theorem edgE_succ (L : Nat) (t : List (List Nat)) (q : Nat) : edgE L t (q + 1) = edgE L t q ++ rowE t q L := by simp [edgE, List.range_succ]
theorem edgE_len (L : Nat) (t : List (List Nat)) : ∀ q, (edgE L t q).length = q * L
 | 0 => by simp [edgE]
 | q + 1 => by rw [edgE_succ, List.length_append, edgE_len L t q, Nat.succ_mul]; simp [rowE]
def set5 (w : World) (g : Nat) (v0 v1 v2 v3 v4 : Value) : World := ((((w.setCell ⟨g, 0, none⟩ v0).setCell ⟨g, 1, none⟩ v1).setCell ⟨g, 2, none⟩ v2).setCell ⟨g, 3, none⟩ v3).setCell ⟨g, 4, none⟩ v4
theorem set5_facts {w : World} {g : Nat} {e : TypeId} {a0 a1 a2 a3 a4 : Value} (h : Blk w g e #[a0, a1, a2, a3, a4]) (v0 v1 v2 v3 v4 : Value) : ∃ wF, set5 w g v0 v1 v2 v3 v4 = wF ∧ Blk wF g e #[v0, v1, v2, v3, v4] ∧ Kept w wF (fun k => k = g) :=
 ⟨_, rfl, ((((h.set_ 0 v0).set_ 1 v1).set_ 2 v2).set_ 3 v3).set_ 4 v4, (((((Kept.refl w (fun k => k = g)).setCell (p := ⟨g, 0, none⟩) (fun _ => rfl) _).setCell (p := ⟨g, 1, none⟩) (fun _ => rfl) _).setCell (p := ⟨g, 2, none⟩) (fun _ => rfl) _).setCell (p := ⟨g, 3, none⟩) (fun _ => rfl) _).setCell (p := ⟨g, 4, none⟩) (fun _ => rfl) _⟩
theorem aut_mem (w : World) (cs : Array Value) (L n : Nat) : ∃ g2 g4 g5 gs w1 w2 w3 w4 w5, g2 = w.heap.size ∧ g4 = w1.heap.size ∧ gs = w2.heap.size ∧ g5 = w3.heap.size ∧ w.alloc (.cells cs 52) = w1 ∧ w1.alloc (.cells zero25 28) = w2 ∧ w2.alloc (.cells #[.int .i64 0] 3) = w3 ∧ w3.alloc (.cells zero25 28) = w4 ∧
  set5 w4 g5 (.int .i64 (L : Int)) (.int .i64 (n : Int)) (.slice (some ⟨gs, 0, none⟩) 1 1) sn0 sn0 = w5 ∧ Blk w2 g2 52 cs ∧ Blk w4 g5 28 zero25 ∧ AuM w w5 g2 g4 g5 gs cs L n sn0 sn0 [] [] := by
 obtain ⟨w1, h1, hb1, hB1, hk1⟩ := box_blk w cs 52
 obtain ⟨w2, h2, hb2, hB2, hk2⟩ := box_blk w1 zero25 28
 obtain ⟨w3, h3, hb3, hB3, hk3⟩ := box_blk w2 #[.int .i64 0] 3
 obtain ⟨w4, h4, hb4, hB4, hk4⟩ := box_blk w3 zero25 28
 obtain ⟨w5, h5, hB5, hk5⟩ := set5_facts hB4 (.int .i64 (L : Int)) (.int .i64 (n : Int)) (.slice (some ⟨w2.heap.size, 0, none⟩) 1 1) sn0 sn0
 have s1 := hb1.size
 have s2 := hb2.size
 have s3 := hb3.size
 have s4 := hb4.size
 have l1 := hB1.lt
 have l2 := hB2.lt
 have l3 := hB3.lt
 have b03 : Below w.heap.size w w3 := hb1.trans ((hb2.mono s1).trans (hb3.mono (by omega)))
 have b35 : Below w3.heap.size w3 w5 := hb4.trans (hk5.below s4 fun b hb e => by omega)
 exact ⟨_, _, _, _, w1, w2, w3, w4, w5, rfl, rfl, rfl, rfl, h1, h2, h3, h4, h5, hB1.below hb2, hB4,
  ⟨b03.trans (b35.mono (by omega)), ((hB1.below hb2).below hb3).below b35, (hB2.below hb3).below b35, hB5, hB3.below b35, own_nil, own_nil, by simp [Value.ownBlock], by omega, ⟨Nat.le_refl _, s1, by omega, by omega⟩⟩⟩
theorem automaton_own {w : World} {v : Value} {L : Nat} {t : List (List Nat)} {ac : List Bool} (h : IsDF w w.heap.size v t ac) (hok : DOK L t ac) (hL : L ≤ 8) (hn : ac.length ≤ 250000) :
  Calls Tryz.prog 27 #[v, .int .i64 (L : Int)] w (Ret fun r w' => Below w.heap.size w w' ∧ (∀ w'', Kept w' w'' (fun k => k < w.heap.size) → IsWA w'' w''.heap.size r (plainW L t ac)) ∧ OwnE w' w.heap.size r (plainW L t ac).edges) := by
 obtain ⟨A1, c1, A2, c2, rfl, h1, h2⟩ := h
 obtain ⟨g2, g4, g5, gs, w1, w2, w3, w4, w5, hg2, hg4, hgs, hg5, hw1, hw2, hw3, hw4, hw5, hB2, hB4, hQ⟩ := aut_mem w #[.slice A1 t.length c1, .slice A2 ac.length c2] L ac.length
 subst hg2 hg4 hgs hg5
 have htl := hok.len
 rw [htl] at hw1 hQ hB2 ⊢
 have hc2 := hB2.cell
 have hf4 := hB4.frozen
 have hl4 := hB4.lt
 have hc4 := hB4.cell
 have hc5 := hQ.b2.cell
 have hI0 := hide (show AuM w w5 w.heap.size w1.heap.size w3.heap.size w2.heap.size #[.slice A1 ac.length c1, .slice A2 ac.length c2] L ac.length sn0 sn0 (accI ac 0) (edgE L t 0) from hQ)
 obtain ⟨n, hne⟩ : ∃ n, n = ac.length := ⟨_, rfl⟩
 have hnH := hide hne
 have hn9 : n ≤ 250000 := by omega
 have h1H := hide h1
 have h2H := hide h2
 have hokH := hide hok
 have hs2l := hQ.below.size
 rw [← hne] at hw1 hI0 hc2 hc5 hw5
 unfold set5 at hw5
 clear h1 h2 hok htl hQ hn hB2 hB4
 have hnT : ac.length = n := hne.symm
 clear hne
 rw [hnT]
 go_enter Tryz.func27, Tryz.ntmps27
 go_wp2_with fail
 go_loopw [19] (fun ii wr => ∃ (q : Nat) (vA vE : Value), ii = .int .i64 (q : Int) ∧ q ≤ n ∧ Hid (AuM w wr w.heap.size w1.heap.size w3.heap.size w2.heap.size #[.slice A1 n c1, .slice A2 n c2] L n vA vE (accI ac q) (edgE L t q))) (fun ii _ => n - (intOf ii).toNat)
 case atStart => exact ⟨0, _, _, rfl, Nat.zero_le _, hI0⟩
 case round =>
  obtain ⟨q, vA, vE, rfl, hq, hI⟩ := hrel
  by_cases hqn : q < n
  ·have hqa : q < ac.length := by rw [← hnH.out]; exact hqn
   obtain ⟨b, hb⟩ := get_lt hqa
   obtain ⟨ba, oa, rfl, hba, hca0⟩ := sl_boolat h2H.out hb
   obtain ⟨bn, on, Ar, cr, row, rfl, hbn, hcn0, hrow, hrl, hrS, hrv⟩ := df_row h1H.out hokH.out hqa
   have hca : wr.cell? ⟨ba, oa + q, none⟩ = some (.bool b) := (hI.out.below.cell hba).trans hca0
   have hcn : wr.cell? ⟨bn, on + q, none⟩ = some (.slice Ar L cr) := (hI.out.below.cell hbn).trans hcn0
   obtain ⟨AA, cA, rfl⟩ := slice_of_own hI.out.acc
   have hla := accI_len ac q
   have hsu := accI_succ hb
   have hacc := hI.out.acc
   have hc2r := hI.out.b2.cell
   have hc5r := hI.out.b5.cell
   obtain ⟨la, hlae⟩ : ∃ la, la = (accI ac q).length := ⟨_, rfl⟩
   rw [← hlae] at hacc hc5r hla hI
   have hsz := hI.out.below.size
   have hrSH := hide hrS
   have hrvH := hide hrv
   have hrlH := hide hrl
   have hsuH := hide hsu
   have hlaeH := hide hlae
   clear hlae hb hca0 hcn0 hrow hrl hrS hrv hsu
   cases b
   all_goals
    first
    | (
      have hAu := hide (show AuM w wr w.heap.size w1.heap.size w3.heap.size w2.heap.size #[.slice (some ⟨bn, on, none⟩) n c1, .slice (some ⟨ba, oa, none⟩) n c2] L n (.slice AA la cA) vE (accI ac (q + 1)) (edgE L t q ++ rowE t q 0) from by
       rw [hsuH.out]
       have e : edgE L t q ++ rowE t q 0 = edgE L t q := by simp [rowE]
       rw [e]
       exact hI.out)
      go_wp2_with fail)
    | (
      go_wp2_with (
       at_builtin
       refine wpList_app_new (w := wr) row3 rfl _ _ rfl w.heap.size (.slice AA la cA) la _ rfl hacc [.int .i64 (q : Int)] 1 rfl rfl (by simp [Value.oneCell']) (by omega) hsz ?_
       intro g' cap' w7 hown7 hk7 hmv7 hg7
       have hb57 := hI.out.b5.kept hk7 (own_blk_ne hI.out.acc hI.out.b5 (by decide))
       have hc57 := hb57.cell
       have hf57 := hb57.frozen 3
       have hl57 := hb57.lt
       have hA7 := hI.out.addA hk7 (by rw [← hlaeH.out]; exact hown7) hmv7
       obtain ⟨w8, hw8⟩ : ∃ w8, w7.setCell ⟨w3.heap.size, 3, none⟩ (.slice (some ⟨g', 0, none⟩) (la + 1) cap') = w8 := ⟨_, rfl⟩
       rw [hw8] at hA7
       have hAu := hide (show AuM w w8 w.heap.size w1.heap.size w3.heap.size w2.heap.size #[.slice (some ⟨bn, on, none⟩) n c1, .slice (some ⟨ba, oa, none⟩) n c2] L n (.slice (some ⟨g', 0, none⟩) (la + 1) cap') vE (accI ac (q + 1)) (edgE L t q ++ rowE t q 0) from by
        rw [hsuH.out]
        have e : edgE L t q ++ rowE t q 0 = edgE L t q := by simp [rowE]
        rw [e]
        exact hA7)
       clear hown7 hk7 hmv7 hb57 hA7))
    go_loopw [37] (fun ii wz => ∃ (x : Nat) (vA vE : Value), ii = .int .i64 (x : Int) ∧ x ≤ L ∧ Hid (AuM w wz w.heap.size w1.heap.size w3.heap.size w2.heap.size #[.slice (some ⟨bn, on, none⟩) n c1, .slice (some ⟨ba, oa, none⟩) n c2] L n vA vE (accI ac (q + 1)) (edgE L t q ++ rowE t q x))) (fun ii _ => L - (intOf ii).toNat)
    case atStart => exact ⟨0, _, _, rfl, Nat.zero_le _, hAu⟩
    case round =>
     obtain ⟨x, vA2, vE2, rfl, hx, hJ⟩ := hrel
     by_cases hxL : x < L
     ·obtain ⟨y, hy⟩ := get_lt (l := row) (i := x) (by rw [hrlH.out]; exact hxL)
      obtain ⟨br, or', rfl, hbr, hcr0⟩ := sl_natat hrSH.out hy
      have hyd := hide (hrvH.out x y hy).2
      have hcy : wr.cell? ⟨br, or' + x, none⟩ = some (.int .i64 (y : Int)) := (hJ.out.below.cell hbr).trans hcr0
      obtain ⟨AE, cE, rfl⟩ := slice_of_own hJ.out.eds
      have hc5x := hJ.out.b5.cell
      have heds := hJ.out.eds
      obtain ⟨m, hm⟩ : ∃ m, m = (edgE L t q ++ rowE t q x).length := ⟨_, rfl⟩
      have hm1 : m + 1 ≤ 4000000 := by
       have h1 : q * L ≤ 250000 * 8 := Nat.mul_le_mul (by omega) hL
       rw [hm, List.length_append, edgE_len]
       simp [rowE]
       omega
      rw [← hm] at hc5x heds
      have hszJ := hJ.out.below.size
      have hmH := hide hm
      clear hm hy hcr0
      go_wp2_with (
       at_builtin
       refine wpList_app_new (w := wr) row35 rfl _ _ rfl w.heap.size (.slice AE m cE) m _ rfl heds [.int .i64 (q : Int), .int .i64 (x : Int), .int .i64 (y : Int)] 1 rfl rfl (by simp [Value.oneCell']) hm1 hszJ ?_
       intro g' cap' w7 hown7 hk7 hmv7 hg7
       have hk7' := hk7
       rw [hmH.out] at hk7'
       have hb57 := hJ.out.b5.kept hk7' (own_blk_ne hJ.out.eds hJ.out.b5 (by decide))
       have hc57 := hb57.cell
       have hf57 := hb57.frozen 4
       have hl57 := hb57.lt
       have hE7 := hide (hJ.out.addE (d := ⟨(q : Int), (x : Int), (y : Int)⟩) (vE' := .slice (some ⟨g', 0, none⟩) (m + 1) cap') hk7' (by rw [← hmH.out]; exact hown7))
       clear hown7 hk7 hk7' hmv7 hb57)
      refine ⟨⟨x + 1, vA2, .slice (some ⟨g', 0, none⟩) (m + 1) cap', by go_num, by omega, ?_⟩, by simp [intOf]; omega⟩
      rw [rowE_succ, ← List.append_assoc, hyd.out]
      exact hE7
     ·obtain rfl : x = L := by omega
      have hJe := hJ.out
      rw [← edgE_succ] at hJe
      have hJH := hide hJe
      clear hJe
      go_wp2_with fail
      exact ⟨⟨q + 1, vA2, vE2, by go_num, by omega, hJH⟩, by simp [intOf]; omega⟩
  ·obtain rfl : q = n := by omega
   have hpl : (⟨(L : Int), (q : Int), [0], accI ac q, edgE L t q⟩ : WA) = plainW L t ac := by rw [hnH.out]; rfl
   have hll := accI_len ac q
   have hle := edgE_len L t q
   have hle9 : q * L ≤ 250000 * 8 := Nat.mul_le_mul hn9 hL
   obtain ⟨AA, cA, rfl⟩ := slice_of_own hI.out.acc
   obtain ⟨AE, cE, rfl⟩ := slice_of_own hI.out.eds
   have hb4 := hI.out.b4
   have hc5r := hI.out.b5.cell
   have hf4r := hb4.frozen
   have hl4r := hb4.lt
   have hc4r := hb4.cell
   obtain ⟨wF, hwF, hBF, hKF⟩ := set5_facts hb4 (.int .i64 (L : Int)) (.int .i64 (q : Int)) (.slice (some ⟨w2.heap.size, 0, none⟩) 1 1) (.slice AA (accI ac q).length cA) (.slice AE (edgE L t q).length cE)
   have hBFc := hBF.cell
   have hbF := hide (hI.out.below.trans (hKF.below hI.out.below.size fun b hb e => by have := hI.out.ge; omega))
   have hfin := hide (fun w'' (hk : Kept wF w'' (fun k => k < w.heap.size)) => hI.out.fin ((hKF.mono fun _ _ e => .inl e).trans hk fun _ _ e => .inr e) (by omega) (by rw [hle]; omega))
   have hown := hide (hI.out.finO hKF)
   have hplH := hide hpl
   unfold set5 at hwF
   obtain ⟨la, hla⟩ : ∃ la, la = (accI ac q).length := ⟨_, rfl⟩
   obtain ⟨le', hle'⟩ : ∃ le', le' = (edgE L t q).length := ⟨_, rfl⟩
   rw [← hla, ← hle'] at hwF hBFc hfin hown hc5r
   clear hb4 hBF hKF hla hle' hll hle hle9 hpl hI
   go_wp2_with fail
   refine bodyPost_ret (v := .agg #[.int .i64 (L : Int), .int .i64 (q : Int), .slice (some ⟨w2.heap.size, 0, none⟩) 1 1, .slice AA la cA, .slice AE le' cE]) (by simp [results, Tryz.results27, go_sem, hBFc]) rfl ⟨hbF.out, ?_, ?_⟩
   ·have := hfin.out
    rw [hplH.out] at this
    exact this
   ·rw [← hplH.out]
    exact hown.out
theorem automaton_any {w : World} {v : Value} {L : Nat} {t : List (List Nat)} {ac : List Bool} (h : IsDF w w.heap.size v t ac) (hok : DOK L t ac) (hL : L ≤ 8) (hn : ac.length ≤ 250000) :
  Calls Tryz.prog 27 #[v, .int .i64 (L : Int)] w (Ret fun r w' => Below w.heap.size w w' ∧ ∀ w'', Kept w' w'' (fun k => k < w.heap.size) → IsWA w'' w''.heap.size r (plainW L t ac)) := by
 refine Calls.ret (automaton_own h hok hL hn) ?_
 rintro r w' ⟨hb, h1, -⟩
 exact ⟨hb, h1⟩
end Go.Proofs.YtakpmdmjbgipiaaGreatDoor
namespace Go.Proofs.YtakpmdmjbgipiaaGreatDoor
open Go.RowKit
set_option maxHeartbeats 16000000
set_option maxRecDepth 100000
def MinRet (w : World) (a : WA) (v : Value) (w' : World) : Prop :=
 Below w.heap.size w w' ∧ ((a.ok = false ∧ v = .tuple #[.agg zero25, .int .i64 1]) ∨ (a.ok = true ∧ a.nf.Large 400 ∧ v = .tuple #[.agg zero25, .int .i64 4]) ∨
  (a.ok = true ∧ ¬ a.nf.Large 400 ∧ ∃ t ac d, CanT a.L t ac a.lang ∧ ac.length ≤ 400 ∧ v = .tuple #[d, .int .i64 0] ∧ ∀ w'', Kept w' w'' (fun k => k < w.heap.size) → IsWA w'' w''.heap.size d (plainW a.L t ac)))
def MinRetO (w : World) (a : WA) (v : Value) (w' : World) : Prop :=
 Below w.heap.size w w' ∧ ((a.ok = false ∧ v = .tuple #[.agg zero25, .int .i64 1]) ∨ (a.ok = true ∧ a.nf.Large 400 ∧ v = .tuple #[.agg zero25, .int .i64 4]) ∨
  (a.ok = true ∧ ¬ a.nf.Large 400 ∧ ∃ t ac d, CanT a.L t ac a.lang ∧ ac.length ≤ 400 ∧ v = .tuple #[d, .int .i64 0] ∧ (∀ w'', Kept w' w'' (fun k => k < w.heap.size) → IsWA w'' w''.heap.size d (plainW a.L t ac)) ∧ OwnE w' w.heap.size d (plainW a.L t ac).edges))
theorem refmin_own {v : Value} {a : WA} {w : World} (h : IsWA w w.heap.size v a) (he : a.edges.length ≤ 3000000) (hst : a.start.length ≤ 4000000) (hT : PowT w) :
  Calls Tryz.prog 21 #[v] w (Ret fun r w' => MinRetO w a r w') := by
 have hWA := hide h
 obtain ⟨A1, c1, A2, c2, A3, c3, rfl, h1, h2, h3, h4⟩ := h
 obtain ⟨w1, hw1, hb1, hB1, hk1⟩ := box_blk w #[.int .i64 a.letters, .int .i64 a.states, .slice A1 a.start.length c1, .slice A2 a.accept.length c2, .slice A3 a.edges.length c3] 28
 obtain ⟨w2, hw2, hb2, hB2, hk2⟩ := box_blk w1 zero25 28
 have hs1 := hb1.size
 have hb02 : Below w.heap.size w w2 := hb1.trans (hb2.mono hs1)
 have hs2 := hb02.size
 have hBx := hide (hB1.below hb2)
 have hc2 := (hB1.below hb2).cell
 have hl1 := hB1.lt
 have hR := hide hB2
 have hval := validate_any (hWA.out.keep (fun p hp => hb02.cell hp) hs2)
 cases hok : a.ok
 ·rw [hok, show errno false = 1 from rfl] at hval
  have hokH := hide hok
  clear h1 h2 h3 h4 hk1 hk2 hb1 hb2 hB1 hB2 he hst hT hok
  go_enter Tryz.func21, Tryz.ntmps21
  go_wp2_with fail
  refine Calls.ret hval ?_
  rintro r w3 ⟨rfl, hb3⟩
  have hR3 := hR.out.below hb3
  have hf3 := hR3.frozen
  have hl3 := hR3.lt
  have hc3 := hR3.cell
  obtain ⟨wF, hwF, hBF, hKF⟩ := set5_facts hR3 (.int .i64 0) (.int .i64 0) sn0 sn0 sn0
  have hBFc := hBF.cell
  have hb03 := hb02.trans (hb3.mono hs2)
  have hbF := hide (hb03.trans (hKF.below hb03.size fun b hb e => by omega))
  unfold set5 at hwF
  clear hval hb3 hR3 hBF hKF hb03
  go_wp2_with fail
  refine bodyPost_ret (v := .tuple #[.agg zero25, .int .i64 1]) (by simp [results, Tryz.results21, go_sem, hBFc]) rfl ⟨hbF.out, .inl ⟨hokH.out, rfl⟩⟩
 ·rw [hok, show errno true = 0 from rfl] at hval
  have hin := (WA.ok_iff.1 hok).2
  have hbd := (WA.ok_iff.1 hok).1
  have hLl : a.letters = (a.L : Int) := by unfold WA.L; omega
  have hL8 : a.L ≤ 8 := by unfold WA.L; omega
  have hcan := hide (fun (wx : World) (hb : Below w.heap.size w wx) => canonical_any (hWA.out.keep (w' := wx) (fun p hp => hb.cell hp) hb.size) hin ⟨by omega, by omega⟩ ⟨by omega, by omega⟩ he hst (hT.below hb))
  have haut := hide (fun (wx : World) (d : Value) (t : List (List Nat)) (ac : List Bool) (hI : IsDF wx wx.heap.size d t ac) (hC : CanT a.L t ac a.lang) (hl : ac.length ≤ 400) => automaton_own hI hC.ok hL8 (by omega))
  have hokH := hide hok
  rw [hLl] at hw1 hc2 hBx hcan hval ⊢
  clear h1 h2 h3 h4 hk1 hk2 hb1 hb2 hB1 hB2 he hst hT hok hin hbd hLl
  go_enter Tryz.func21, Tryz.ntmps21
  go_wp2_with fail
  refine Calls.ret hval ?_
  rintro r w3 ⟨rfl, hb3⟩
  have hb03 := hb02.trans (hb3.mono hs2)
  have hBx3 := hide (hBx.out.below hb3)
  have hR3 := hide (hR.out.below hb3)
  have hc3 := hBx3.out.cell
  clear hval hb3
  go_wp2_with fail
  refine Calls.ret (hcan.out _ hb03) ?_
  rintro r w4 ⟨hb4, hr⟩
  have hb04 := hb03.trans (hb4.mono hb03.size)
  have hBx4 := hBx3.out.below hb4
  have hR4 := hR3.out.below hb4
  have hs4 := hb04.size
  have hl4 := hR4.lt
  obtain ⟨w5, hw5, hb5, hB5, hk5⟩ := box_blk w4 #[sn0, sn0] 52
  have hf5 := hB5.frozen
  have hl5 := hB5.lt
  have hc5 := hB5.cell
  rcases hr with ⟨hLg, rfl⟩ | ⟨hnl, t, ac, d, hC, hacl, rfl, hDF⟩
  ·obtain ⟨w6, hw6, hB6, hK6⟩ := set2_facts hB5 sn0 sn0
   have hb46 : Below w4.heap.size w4 w6 := hb5.trans (hK6.below hb5.size fun b hb e => by omega)
   have hb06 := hb04.trans (hb46.mono hs4)
   have hR6 := hR4.below hb46
   have hf6 := hR6.frozen
   have hl6 := hR6.lt
   have hc6 := hR6.cell
   obtain ⟨wF, hwF, hBF, hKF⟩ := set5_facts hR6 (.int .i64 0) (.int .i64 0) sn0 sn0 sn0
   have hBFc := hBF.cell
   have hbF := hide (hb06.trans (hKF.below hb06.size fun b hb e => by omega))
   have hLgH := hide hLg
   unfold set5 at hwF
   unfold set2 at hw6
   clear hLg hb4 hBx4 hR4 hB5 hk5 hb5 hB6 hK6 hb46 hb06 hR6 hBF hKF hb04
   go_wp2_with fail
   refine bodyPost_ret (v := .tuple #[.agg zero25, .int .i64 4]) (by simp [results, Tryz.results21, go_sem, hBFc]) rfl ⟨hbF.out, .inr (.inl ⟨hokH.out, hLgH.out, rfl⟩)⟩
  ·have hD4 := hDF w4 (Kept.refl _ _)
   have hD4c := hD4
   obtain ⟨A7, c7, A8, c8, rfl, -, -⟩ := hD4c
   obtain ⟨w6, hw6, hB6, hK6⟩ := set2_facts hB5 (.slice A7 t.length c7) (.slice A8 ac.length c8)
   have hb46 : Below w4.heap.size w4 w6 := hb5.trans (hK6.below hb5.size fun b hb e => by omega)
   have hb06 := hb04.trans (hb46.mono hs4)
   have hs6 := hb46.size
   have hcall := haut.out w6 _ t ac (hD4.keep (fun p hp => hb46.cell hp) hs6) hC hacl
   have hR6 := hide (hR4.below hb46)
   have hc6 := hB6.cell
   have hcx6 := (hBx4.below hb46).cell
   have hnlH := hide hnl
   have hCH := hide hC
   have haclH := hide hacl
   have hb06H := hide hb06
   unfold set2 at hw6
   obtain ⟨lr, hlr⟩ : ∃ lr, lr = t.length := ⟨_, rfl⟩
   obtain ⟨la, hla⟩ : ∃ la, la = ac.length := ⟨_, rfl⟩
   rw [← hlr, ← hla] at hw6 hc6 hcall ⊢
   clear hnl hC hacl hDF hD4 hb4 hBx4 hR4 hB5 hk5 hb5 hB6 hK6 hb46 hb06 hb04 hlr hla
   go_wp2_with fail
   refine Calls.ret hcall ?_
   rintro d w7 ⟨hb7, hI7, hO7⟩
   obtain ⟨A1', c1', A2', c2', A3', c3', rfl, -, -, -, -⟩ := hI7 w7 (Kept.refl _ _)
   have hR7 := hR6.out.below hb7
   have hf7 := hR7.frozen
   have hl7 := hR7.lt
   have hc7 := hR7.cell
   have hs7 := hb7.size
   have hs06 := hb06H.out.size
   have hO8 := hO7
   clear hO7
   generalize (plainW a.L t ac).letters = x0 at hI7 hO8 ⊢
   generalize (plainW a.L t ac).states = x1 at hI7 hO8 ⊢
   generalize (plainW a.L t ac).start.length = n1 at hI7 hO8 ⊢
   generalize (plainW a.L t ac).accept.length = n2 at hI7 hO8 ⊢
   generalize (plainW a.L t ac).edges.length = n3 at hI7 hO8 ⊢
   obtain ⟨wF, hwF, hBF, hKF⟩ := set5_facts hR7 (.int .i64 x0) (.int .i64 x1) (.slice A1' n1 c1') (.slice A2' n2 c2') (.slice A3' n3 c3')
   have hBFc := hBF.cell
   have hbF := hide ((hb06H.out.trans (hb7.mono hs06)).trans (hKF.below (by omega) fun b hb e => by omega))
   have hfin := hide (fun w'' (hk : Kept wF w'' (fun k => k < w.heap.size)) => hI7 w'' ((hKF.mono (fun b _ e => by omega)).trans hk (fun b _ e => by omega)))
   have hown := hide (hO8.kept (base' := w.heap.size) hKF (fun g (e : g = _) _ => by omega) (by omega))
   unfold set5 at hwF
   clear hcall hI7 hO8 hR7 hBF hKF hb7
   go_wp2_with fail
   refine bodyPost_ret (v := .tuple #[.agg #[.int .i64 x0, .int .i64 x1, .slice A1' n1 c1', .slice A2' n2 c2', .slice A3' n3 c3'], .int .i64 0]) (by simp [results, Tryz.results21, go_sem, hBFc]) rfl ⟨hbF.out, .inr (.inr ⟨hokH.out, hnlH.out, t, ac, _, hCH.out, haclH.out, rfl, hfin.out, hown.out⟩)⟩
theorem refmin_any {v : Value} {a : WA} {w : World} (h : IsWA w w.heap.size v a) (he : a.edges.length ≤ 3000000) (hst : a.start.length ≤ 4000000) (hT : PowT w) :
  Calls Tryz.prog 21 #[v] w (Ret fun r w' => MinRet w a r w') := by
 refine Calls.ret (refmin_own h he hst hT) ?_
 rintro r w' ⟨hb, h1 | h1 | ⟨h1, h2, t, ac, d, h3, h4, h5, h6, -⟩⟩
 ·exact ⟨hb, .inl h1⟩
 ·exact ⟨hb, .inr (.inl h1)⟩
 ·exact ⟨hb, .inr (.inr ⟨h1, h2, t, ac, d, h3, h4, h5, h6⟩)⟩
end Go.Proofs.YtakpmdmjbgipiaaGreatDoor
namespace Go.Proofs.YtakpmdmjbgipiaaGreatDoor
open Go.RowKit
set_option maxHeartbeats 16000000
set_option maxRecDepth 100000
theorem sl_intat {w : World} {B : Nat} {A : Option Addr} {l : List Int} (h : Sl w B 1 encI A l) {i : Nat} {x : Int} (hi : l[i]? = some x) : ∃ b off, A = some ⟨b, off, none⟩ ∧ b < B ∧ w.cell? ⟨b, off + i, none⟩ = some (.int .i64 x) := by
 obtain ⟨b, off, e, hb, hc⟩ := h.2 (by
  intro e
  rw [e] at hi
  simp at hi)
 have := hc i x hi 0 (by omega)
 exact ⟨b, off, e, hb, by simpa [encI] using this⟩
theorem drop1_any {w : World} {g4 g10 B c q : Nat} {A : Option Addr} {far : List Int} {k : Int} (hB : Blk w g4 22 #[.slice A far.length c]) (hS : Sl w B 1 encI A far) (hk : w.cell? ⟨g10, 0, none⟩ = some (.int .i64 k)) (hq : q < far.length) :
  Calls Tryz.prog 73 #[.int .i64 (q : Int), .pointer (some ⟨g4, 0, none⟩), .pointer (some ⟨g10, 0, none⟩)] w (Ret fun r w' => r = .bool (!decide (far.getD q (-1) = k)) ∧ Below w.heap.size w w') := by
 obtain ⟨x, hx⟩ := get_lt hq
 obtain ⟨b, off, rfl, -, hc⟩ := sl_intat hS hx
 have hc4 := hB.cell
 have hxe := hide (getD_some (d := (-1 : Int)) hx)
 have hlm := hS.1
 obtain ⟨n, hn⟩ : ∃ n, n = far.length := ⟨_, rfl⟩
 rw [← hn] at hc4 hq hlm
 clear hS hB hx hn
 go_enter Tryz.func73, Tryz.ntmps73
 go_wp2_with fail
 refine Reg.cP [0, 0, 3, 7, 0, 31, 63] ?_
 go_wp2_with fail
 go_ret
 rw [hxe.out]
 exact ⟨by by_cases h : x = k <;> simp [h, bne], drewB w⟩
theorem drop2_any {w : World} {g4 g10 B c q k : Nat} {A : Option Addr} {far : List Int} (hB : Blk w g4 22 #[.slice A far.length c]) (hS : Sl w B 1 encI A far) (hk : w.cell? ⟨g10, 0, none⟩ = some (.int .i64 ((k : Int) + 1))) (hk9 : k ≤ 4000000) (hq : q < far.length) :
  Calls Tryz.prog 74 #[.int .i64 (q : Int), .pointer (some ⟨g4, 0, none⟩), .pointer (some ⟨g10, 0, none⟩)] w (Ret fun r w' => r = .bool (!decide (far.getD q (-1) = (k : Int))) ∧ Below w.heap.size w w') := by
 obtain ⟨x, hx⟩ := get_lt hq
 obtain ⟨b, off, rfl, -, hc⟩ := sl_intat hS hx
 have hc4 := hB.cell
 have hxe := hide (getD_some (d := (-1 : Int)) hx)
 have hlm := hS.1
 obtain ⟨n, hn⟩ : ∃ n, n = far.length := ⟨_, rfl⟩
 rw [← hn] at hc4 hq hlm
 have hw : (k : Int) + 1 - 1 = (k : Int) := by omega
 clear hS hB hx hn
 go_enter Tryz.func74, Tryz.ntmps74
 go_wp2_with fail
 refine Reg.cN [0, 0, 3, 7, 0, 16, 63, 127] ?_
 intro Qf hQf
 go_wp2_with fail
 first | refine hQf _ _ ⟨rfl, ?_⟩ | refine ⟨rfl, ?_⟩ | trace_state
 try clear hQf
 go_wp2_with fail
 go_ret
 rw [hxe.out]
 exact ⟨by by_cases h : x = (k : Int) <;> simp [h, bne], drewB w⟩
end Go.Proofs.YtakpmdmjbgipiaaGreatDoor
namespace Go.Proofs.YtakpmdmjbgipiaaGreatDoor
open Go.RowKit
set_option maxHeartbeats 16000000
set_option maxRecDepth 100000
theorem index_any {w : World} {l : List Nat} {A : Option Addr} {c F B g4 g10 : Nat} {p : Nat → Bool} (h : Sl w B 1 encI A (natL l)) (hB : B ≤ w.heap.size) (hl : l.length ≤ 4000000) (hF : F = 73 ∨ F = 74)
  (hp : ∀ q ∈ l, ∀ w', Below w.heap.size w w' → Calls Tryz.prog F #[.int .i64 (q : Int), .pointer (some ⟨g4, 0, none⟩), .pointer (some ⟨g10, 0, none⟩)] w' (Ret fun r w'' => r = .bool (p q) ∧ Below w'.heap.size w' w'')) :
  Calls Tryz.prog 93 #[.slice A l.length c, .func (.func F) #[] #[.pointer (some ⟨g4, 0, none⟩), .pointer (some ⟨g10, 0, none⟩)]] w (Ret fun r w' => Below w.heap.size w w' ∧ ((∃ k q : Nat, l[k]? = some q ∧ r = .int .i64 (k : Int) ∧ (∀ q ∈ l.take k, p q = false) ∧ p q = true) ∨ (r = .int .i64 (-1) ∧ ∀ q ∈ l, p q = false))) := by
 have hH := hide h
 have hpH := hide hp
 obtain ⟨n, hn⟩ : ∃ n, n = l.length := ⟨_, rfl⟩
 have hnH := hide hn
 rw [← hn] at hl ⊢
 clear h hp hn
 rcases hF with rfl | rfl
 all_goals
  go_enter Tryz.func93, Tryz.ntmps93
  go_wp2_with fail
  go_loopw [8] (fun ii wr => ∃ k : Nat, ii = .int .i64 (k : Int) ∧ k ≤ n ∧ Below w.heap.size w wr ∧ Hid (∀ q ∈ l.take k, p q = false)) (fun ii _ => n - (intOf ii).toNat)
  case atStart => exact ⟨0, rfl, Nat.zero_le _, Below.refl _ _, hide (by simp)⟩
  case round =>
   obtain ⟨k, rfl, hk, hBr, hno⟩ := hrel
   by_cases hkn : k < n
   ·obtain ⟨q, hq⟩ := get_lt (l := l) (i := k) (by rw [← hnH.out]; exact hkn)
    obtain ⟨b, off, rfl, hb, hc0⟩ := sl_natat hH.out hq
    have hc : wr.cell? ⟨b, off + k, none⟩ = some (.int .i64 (q : Int)) := (hBr.cell (by show b < _; omega)).trans hc0
    have hcall := hpH.out q (List.mem_of_getElem? hq) wr hBr
    have hqH := hide hq
    clear hq hc0
    go_wp2_with fail
    refine Calls.ret hcall ?_
    rintro r w2 ⟨rfl, hb2⟩
    have hB2 := hBr.trans (hb2.mono hBr.size)
    clear hcall hb2
    rcases hpq : p q with _ | _
    ·have hno2 := hide (show ∀ s ∈ l.take (k + 1), p s = false from fun s hs => by
      rw [take_snoc hqH.out] at hs
      rcases List.mem_append.1 hs with hs | hs
      ·exact hno.out s hs
      ·rw [List.mem_singleton.1 hs]; exact hpq)
     clear hpq
     go_wp2_with fail
     exact ⟨⟨k + 1, by go_num, by omega, hB2, hno2⟩, by simp [intOf]; omega⟩
    ·have hpqH := hide hpq
     clear hpq
     go_wp2_with fail
     go_ret
     exact ⟨hB2, .inl ⟨k, q, hqH.out, rfl, hno.out, hpqH.out⟩⟩
   ·obtain rfl : k = n := by omega
    go_wp2_with fail
    go_ret
    refine ⟨hBr, .inr ⟨rfl, ?_⟩⟩
    have := hno.out
    rwa [hnH.out, List.take_length] at this
end Go.Proofs.YtakpmdmjbgipiaaGreatDoor
namespace Go.Proofs.YtakpmdmjbgipiaaGreatDoor
open Go.RowKit
set_option maxHeartbeats 16000000
set_option maxRecDepth 100000
theorem set_heap {w : World} {g k : Nat} {cur : Array Value} {e : TypeId} {u : Value} (h : w.heap[g]? = some (.cells cur e (0, 0))) : (w.setCell ⟨g, k, none⟩ u).heap[g]? = some (.cells (cur.setIfInBounds k u) e (0, 0)) :=
 Blk.set_ (t := e) h k u
theorem own_set {w : World} {base n g cap k : Nat} {e : TypeId} {xs : List Value} (h : w.ownsRow base e 1 (.slice (some ⟨g, 0, none⟩) n cap) n xs) (_hk : k < n) (u : Value) :
  (w.setCell ⟨g, k, none⟩ u).ownsRow base e 1 (.slice (some ⟨g, 0, none⟩) n cap) n (xs.set k u) := by
 refine ⟨by simpa using h.1, .inr ?_⟩
 rcases h.2 with ⟨hv, _⟩ | ⟨g', cap', cur, hv, hb, hh, h1, h2, h3, h4⟩
 ·cases hv
 ·injection hv with hg _ hc
  injection hg with hg
  injection hg with hg
  subst hg hc
  exact ⟨g, cap, _, rfl, hb, set_heap hh, h1, h2, by simpa using h3, by rw [Nat.mul_one] at h4 ⊢; simp [List.take_set, h4]⟩
theorem own_cell {w : World} {base n g cap k : Nat} {e : TypeId} {xs : List Value} {u : Value} (h : w.ownsRow base e 1 (.slice (some ⟨g, 0, none⟩) n cap) n xs) (hk : xs[k]? = some u) : w.cell? ⟨g, k, none⟩ = some u := by
 obtain ⟨g', cap', he, hc⟩ := own_get h hk
 cases he
 exact hc
theorem own_frozen {w : World} {base n g cap size : Nat} {e : TypeId} {xs : List Value} (h : w.ownsRow base e size (.slice (some ⟨g, 0, none⟩) n cap) n xs) (k : Nat) : w.frozen? ⟨g, k, none⟩ = false := by
 rcases h.2 with ⟨hv, _⟩ | ⟨g', cap', cur, hv, hb, hh, _⟩
 ·cases hv
 ·injection hv with hg _ _
  injection hg with hg
  injection hg with hg
  subst hg
  exact Blk.frozen (t := e) hh k
theorem own_setCells {base n g cap : Nat} {e : TypeId} : ∀ (vs : List Value) (o : Nat) (w : World) (xs : List Value), w.ownsRow base e 1 (.slice (some ⟨g, 0, none⟩) n cap) n xs → o + vs.length ≤ n →
  ∃ xs', (w.setCells g o vs).ownsRow base e 1 (.slice (some ⟨g, 0, none⟩) n cap) n xs' ∧ xs'.take o = xs.take o ∧ Kept w (w.setCells g o vs) (fun k => k = g)
 | [], o, w, xs, h, _ => ⟨xs, h, rfl, Kept.refl _ _⟩
 | v :: vs, o, w, xs, h, hl => by
  rw [List.length_cons] at hl
  have h1 := own_set h (k := o) (by omega) v
  obtain ⟨xs', h2, h3, h4⟩ := own_setCells vs (o + 1) _ _ h1 (by omega)
  refine ⟨xs', h2, ?_, ((Kept.refl w (fun k => k = g)).setCell (p := ⟨g, o, none⟩) (fun _ => rfl) v).trans h4 fun _ _ e => e⟩
  have := congrArg (List.take o) h3
  rw [List.take_take, List.take_take, Nat.min_eq_left (by omega)] at this
  rw [this, List.take_set_of_le (Nat.le_refl o)]
structure DelI (w : World) (base g n c : Nat) (p : Nat → Bool) (l : List Nat) (i j : Nat) (xs : List Nat) : Prop where
 own : w.ownsRow base 3 1 (.slice (some ⟨g, 0, none⟩) n c) n ((natL xs).map (Value.int .i64))
 len : xs.length = n
 pre : xs.take i = (l.take j).filter (fun q => !p q)
 num : i = ((l.take j).filter (fun q => !p q)).length
 rest : ∀ s, j ≤ s → xs[s]? = l[s]?
theorem delete_any {w : World} {l : List Nat} {base g c F g4 g10 : Nat} {p : Nat → Bool} (h : w.ownsRow base 3 1 (.slice (some ⟨g, 0, none⟩) l.length c) l.length ((natL l).map (Value.int .i64))) (hl : l.length ≤ 4000000) (hF : F = 73 ∨ F = 74)
  (hp : ∀ q ∈ l, ∀ w', Kept w w' (fun k => k = g) → Calls Tryz.prog F #[.int .i64 (q : Int), .pointer (some ⟨g4, 0, none⟩), .pointer (some ⟨g10, 0, none⟩)] w' (Ret fun r w'' => r = .bool (p q) ∧ Below w'.heap.size w' w'')) :
  Calls Tryz.prog 72 #[.slice (some ⟨g, 0, none⟩) l.length c, .func (.func F) #[] #[.pointer (some ⟨g4, 0, none⟩), .pointer (some ⟨g10, 0, none⟩)]] w (Ret fun r w' => Kept w w' (fun k => k = g) ∧ r = .slice (some ⟨g, 0, none⟩) (l.filter fun q => !p q).length c ∧ w'.ownsRow base 3 1 r (l.filter fun q => !p q).length ((natL (l.filter fun q => !p q)).map (Value.int .i64))) := by
 have hidx : Calls Tryz.prog 93 #[.slice (some ⟨g, 0, none⟩) l.length c, .func (.func F) #[] #[.pointer (some ⟨g4, 0, none⟩), .pointer (some ⟨g10, 0, none⟩)]] w (Ret fun r w' => Below w.heap.size w w' ∧ ((∃ k q : Nat, l[k]? = some q ∧ r = .int .i64 (k : Int) ∧ (∀ q ∈ l.take k, p q = false) ∧ p q = true) ∨ (r = .int .i64 (-1) ∧ ∀ q ∈ l, p q = false))) := by
  obtain ⟨A, c', e, hS⟩ := own_slI h (by simp [natL]) (Nat.le_refl _) (by omega)
  injection e with e1 e2 e3
  subst e1
  exact index_any hS (Nat.le_refl _) hl hF fun q hq w' hb => hp q hq w' (Kept.of_below hb _)
 have hH := hide h
 have hpH := hide hp
 obtain ⟨n, hn⟩ : ∃ n, n = l.length := ⟨_, rfl⟩
 have hnH := hide hn
 rw [← hn] at hl hidx ⊢
 clear h hp hn
 rcases hF with rfl | rfl
 all_goals
  go_enter Tryz.func72, Tryz.ntmps72
  go_wp2_with fail
  refine Calls.ret hidx ?_
  rintro r w1 ⟨hb1, hr⟩
  have hk1 := Kept.of_below hb1 (fun k => k = g)
  have hO1 := hide (own_below hH.out hb1)
  clear hidx hb1
  rcases hr with ⟨k, q, hq, rfl, hno, hpq⟩ | ⟨rfl, hno⟩
  ·have hkn : k < n := by rw [hnH.out]; exact lt_of_get hq
   have hf0 : (l.take (k + 1)).filter (fun q => !p q) = l.take k := by
    rw [take_snoc hq, List.filter_append, List.filter_eq_self.2 (fun q hq => by rw [hno q hq]; rfl)]
    simp [hpq]
   have hI0 := hide (show DelI w1 base g n c p l k (k + 1) l from
    ⟨by rw [hnH.out]; exact hO1.out, hnH.out.symm, hf0.symm, by rw [hf0, List.length_take]; have := hnH.out; omega, fun _ _ => rfl⟩)
   clear hq hno hpq hf0 hO1
   have hkm : ((k : Int) == -1) = false := by
    rw [beq_eq_false_iff_ne]
    omega
   go_wp2_with fail
   clear hkm
   go_loopw [5, 6] (fun ii jj wr => ∃ (i j : Nat) (xs : List Nat), ii = .int .i64 (i : Int) ∧ jj = .int .i64 (j : Int) ∧ i < j ∧ j ≤ n ∧ Kept w wr (fun k => k = g) ∧ Hid (DelI wr base g n c p l i j xs)) (fun _ jj _ => n - (intOf jj).toNat)
   case atStart => exact ⟨k, k + 1, l, rfl, by go_num, by omega, by omega, hk1, hI0⟩
   case round =>
    obtain ⟨i, j, xs, rfl, rfl, hij, hjn, hkr, hI⟩ := hrel
    obtain ⟨hO, hxl, hxt, hil, hxs⟩ := hI.out
    by_cases hjl : j < n
    ·obtain ⟨q, hq⟩ := get_lt (l := l) (i := j) (by rw [← hnH.out]; exact hjl)
     have hqx : xs[j]? = some q := by rw [hxs j (Nat.le_refl _), hq]
     have hcq := own_cell hO (map_get (f := Value.int .i64) (map_get (f := fun x : Nat => (x : Int)) hqx))
     have hcall := hpH.out q (List.mem_of_getElem? hq) wr hkr
     have hqH := hide hq
     clear hO hxl hxt hil hxs hq hqx
     go_wp2_with fail
     refine Calls.ret hcall ?_
     rintro r w2 ⟨rfl, hb2⟩
     have hk2 := hkr.trans (Kept.of_below hb2 (fun k => k = g)) (fun _ _ e => e)
     have hO2 := own_below hI.out.own hb2
     clear hcall hb2
     have hs2 := hkr.size
     have hil := hI.out.num
     have hcw := own_cell (k := i) hO2 (u := .int .i64 (xs.getD i 0 : Int)) (by
      obtain ⟨y, hy⟩ := get_lt (l := xs) (i := i) (by rw [hI.out.len]; omega)
      rw [getD_some hy]
      exact map_get (f := Value.int .i64) (map_get (f := fun x : Nat => (x : Int)) hy))
     have hfw := own_frozen hO2 i
     have hlw := own_lt hO2 (k := g) rfl
     have hO2H := hide hO2
     clear hO2 hil
     rcases hpq : p q with _ | _
     ·have hst := hide (show DelI (w2.setCell ⟨g, i, none⟩ (.int .i64 (q : Int))) base g n c p l (i + 1) (j + 1) (xs.set i q) from by
       have hf : (l.take (j + 1)).filter (fun q => !p q) = (l.take j).filter (fun q => !p q) ++ [q] := by
        rw [take_snoc hqH.out, List.filter_append]
        simp [hpq]
       have hix : i < xs.length := by rw [hI.out.len]; omega
       refine ⟨?_, by rw [List.length_set]; exact hI.out.len, ?_, ?_, fun s hs => ?_⟩
       ·have := own_set hO2H.out (k := i) (by omega) (.int .i64 (q : Int))
        rw [show (natL (xs.set i q)).map (Value.int .i64) = ((natL xs).map (Value.int .i64)).set i (.int .i64 (q : Int)) from by simp [natL, List.map_set]]
        exact this
       ·rw [hf, ← hI.out.pre, List.take_add_one, List.getElem?_set_self hix, List.take_set_of_le (Nat.le_refl i)]
        rfl
       ·rw [hf, List.length_append, ← hI.out.num]; rfl
       ·rw [List.getElem?_set_ne (by omega)]
        exact hI.out.rest s (by omega))
      have hk3 := hk2.setCell (p := ⟨g, i, none⟩) (fun _ => rfl) (.int .i64 (q : Int))
      clear hpq
      go_wp2_with fail
      exact ⟨⟨i + 1, j + 1, xs.set i q, by go_num, by go_num, by omega, by omega, hk3, hst⟩, by simp [intOf]; omega⟩
     ·have hst := hide (show DelI w2 base g n c p l i (j + 1) xs from by
       have hf : (l.take (j + 1)).filter (fun q => !p q) = (l.take j).filter (fun q => !p q) := by
        rw [take_snoc hqH.out, List.filter_append]
        simp [hpq]
       exact ⟨hO2H.out, hI.out.len, by rw [hf]; exact hI.out.pre, by rw [hf]; exact hI.out.num, fun s hs => hI.out.rest s (by omega)⟩)
      clear hpq
      go_wp2_with fail
      exact ⟨⟨i, j + 1, xs, rfl, by go_num, by omega, by omega, hk2, hst⟩, by simp [intOf]; omega⟩
    ·obtain rfl : j = n := by omega
     have hO := hI.out.own
     have hcl : ∀ ty, (Builtin.clear_ #[22] ty #[.slice (some ⟨g, i, none⟩) (j - i) (c - i)]).run Tryz.prog wr = .ok (.tuple #[]) (wr.setCells g i (List.replicate (j - i) (.int .i64 0))) :=
      fun ty => Lib.run_clear_slice wr 22 3 ty (.int .i64 0) Tryz.underlying22 zero3 rfl rfl g i _ _ (by omega) (fun s hs => by
       obtain ⟨y, hy⟩ := get_lt (l := xs) (i := i + s) (by rw [hI.out.len]; omega)
       rw [own_cell hO (map_get (f := Value.int .i64) (map_get (f := fun x : Nat => (x : Int)) hy))]; rfl) (fun s hs => own_frozen hO _)
     obtain ⟨xs', hO', htk, hkc⟩ := own_setCells (List.replicate (j - i) (.int .i64 0)) i wr _ hO (by simp; omega)
     have hcj : j ≤ c := by
      rcases hO.2 with ⟨hv, _⟩ | ⟨g', cap', cur, hv, hb, hh, h1, _⟩
      ·cases hv
      ·injection hv with _ _ e
       omega
     clear hO hxl hxt hil hxs
     go_wp2_with fail
     go_ret
     have hfin := own_shrink hO' (m := i) (by omega)
     rw [Nat.mul_one, htk] at hfin
     have hpre := hI.out.pre
     have hnum := hI.out.num
     rw [hnH.out, List.take_length] at hpre hnum
     rw [← List.map_take, show (natL xs).take i = natL (xs.take i) from by simp [natL, List.map_take], hpre] at hfin
     rw [← hnum]
     exact ⟨hkr.trans hkc fun _ _ e => e, rfl, hfin⟩
  ·have hfe : (l.filter fun q => !p q) = l := List.filter_eq_self.2 fun q hq => by rw [hno q hq]; rfl
   have hfH := hide hfe
   clear hno hfe
   go_wp2_with fail
   go_ret
   rw [hfH.out]
   refine ⟨hk1, by rw [← hnH.out]; rfl, ?_⟩
   show w1.ownsRow base 3 1 (.slice (some ⟨g, 0, none⟩) n c) l.length _
   rw [hnH.out]
   exact hO1.out
end Go.Proofs.YtakpmdmjbgipiaaGreatDoor
namespace Go.Proofs.YtakpmdmjbgipiaaGreatDoor
open Go.RowKit
set_option maxHeartbeats 16000000
set_option maxRecDepth 100000
def QRow (w : World) (base : Nat) (g o n c : Nat) (qs : List Nat) : Prop :=
 base ≤ g ∧ qs.length = n ∧ n ≤ c ∧ ∃ cur : Array Value, Blk w g 3 cur ∧ o + c ≤ cur.size ∧ ∀ j q : Nat, qs[j]? = some q → cur[o + j]? = some (.int .i64 (q : Int))
theorem QRow.of_own {w : World} {base g n c : Nat} {qs : List Nat} (h : w.ownsRow base 3 1 (.slice (some ⟨g, 0, none⟩) n c) n ((natL qs).map (Value.int .i64))) : QRow w base g 0 n c qs := by
 rcases h.2 with ⟨hv, _⟩ | ⟨g', cap', cur, hv, hb, hh, h1, h2, h3, h4⟩
 ·cases hv
 ·injection hv with hg _ hc
  injection hg with hg
  injection hg with hg
  subst hg hc
  refine ⟨hb, by have := h.1; simpa [natL] using this, h1, cur, hh, by omega, fun j q hq => ?_⟩
  have hj : ((natL qs).map (Value.int .i64))[j]? = some (.int .i64 (q : Int)) := map_get (map_get (f := fun x : Nat => (x : Int)) hq)
  rw [← h4, List.getElem?_take] at hj
  split at hj
  ·simpa using hj
  ·cases hj
theorem QRow.keep {w w' : World} {base g o n c : Nat} {qs : List Nat} (h : QRow w base g o n c qs) {X : Nat → Prop} (hk : Kept w w' X) (hX : ¬ X g) : QRow w' base g o n c qs := by
 obtain ⟨h1, h2, h3, cur, h4, h5, h6⟩ := h
 exact ⟨h1, h2, h3, cur, h4.kept hk hX, h5, h6⟩
theorem QRow.cell {w : World} {base g o n c : Nat} {qs : List Nat} (h : QRow w base g o n c qs) {j q : Nat} (hq : qs[j]? = some q) : w.cell? ⟨g, o + j, none⟩ = some (.int .i64 (q : Int)) := by
 obtain ⟨h1, h2, h3, cur, h4, h5, h6⟩ := h
 rw [h4.cell, h6 j q hq]
theorem QRow.tail {w : World} {base g o n c q : Nat} {qs : List Nat} (h : QRow w base g o (n + 1) c (q :: qs)) : QRow w base g (o + 1) n (c - 1) qs := by
 obtain ⟨h1, h2, h3, cur, h4, h5, h6⟩ := h
 refine ⟨h1, by simpa using h2, by omega, cur, h4, by omega, fun j y hy => ?_⟩
 rw [show o + 1 + j = o + (j + 1) by omega]
 exact h6 (j + 1) y (by simpa using hy)
theorem QRow.room {w : World} {base g o n c q : Nat} {qs : List Nat} (h : QRow w base g o n c qs) (hr : n < c) : QRow (w.setCell ⟨g, o + n, none⟩ (.int .i64 (q : Int))) base g o (n + 1) c (qs ++ [q]) := by
 obtain ⟨h1, h2, h3, cur, h4, h5, h6⟩ := h
 refine ⟨h1, by simp [h2], by omega, _, h4.set_ (o + n) _, by simpa using h5, fun j y hy => ?_⟩
 rw [Array.getElem?_setIfInBounds]
 by_cases hj : j = n
 ·subst hj
  rw [List.getElem?_append_right (by omega)] at hy
  simp [h2] at hy
  rw [if_pos rfl, if_pos (by omega), hy]
 ·have hjl := lt_of_get hy
  rw [List.length_append, List.length_singleton] at hjl
  rw [List.getElem?_append_left (by omega)] at hy
  rw [if_neg (by omega)]
  exact h6 j y hy
theorem app_to_queue {P : Program} {ops : Array Oper} {rest : List Oper} {o : Oper} {a : Act} {Q : Exit → Act → World → Prop} {w : World} {x base : Nat} (R : RowTy P 22 3 1) (hgd : o.guard = none) (s y : Operand)
    (ho : o.op = .call { callee := .builtin .append, args := #[s, y], argTypes := #[22, 22] })
    (g off n c : Nat) (qs : List Nat) (hs : a.eval s = .slice (some ⟨g, off, none⟩) n c) (hq : QRow w base g off n c qs) (cc : Nat)
    (hx : a.eval y = .slice (some ⟨w.heap.size, 0, none⟩) 1 cc) (hn : n + 1 ≤ 4000000) (hbase : base ≤ w.heap.size)
    (h : ∀ g' off' c' w', QRow w' base g' off' (n + 1) c' (qs ++ [x]) → Kept w w' (fun k => k = g) → (g' = g ∨ w.heap.size ≤ g') → g' < w'.heap.size →
      wpList P ops Q rest (a.put o.dst (.slice (some ⟨g', off', none⟩) (n + 1) c')) w') :
    wpList P ops Q (o :: rest) a (w.alloc (.cells #[.int .i64 (x : Int)] 3)) := by
  obtain ⟨i, z, bytes, hi, hz, hsize, hby, hzs, hb⟩ := R.info
  have hka : Kept w (w.alloc (.cells #[.int .i64 (x : Int)] 3)) (fun k => k = g) := (Kept.refl w _).alloc _
  obtain ⟨q1, q2, q3, cur, q4, q5, q6⟩ := hq
  have q4' := q4.kept ((Kept.refl w (fun _ => False)).alloc (.cells #[.int .i64 (x : Int)] 3)) id
  have hqa : QRow (w.alloc (.cells #[.int .i64 (x : Int)] 3)) base g off n c qs := ⟨q1, q2, q3, cur, q4', q5, q6⟩
  refine wpList_append_arg _ hgd s y 22 ho 3 i z 1 bytes R.ht hi hz hsize hby hzs R.pos g off n c ((natL qs).map (Value.int .i64)) hs (by simp [natL, q2]) ?_ ⟨w.heap.size, 0, none⟩ 1 cc [.int .i64 (x : Int)] hx rfl ?_ (by simp [Value.oneCell']) ?_ (by unfold maxLen; omega) (Nat.le_trans (Nat.mul_le_mul hn hb) (by decide)) ?_ ?_
  · intro j u hj
    rw [List.getElem?_map] at hj
    rcases hqj : qs[j]? with _ | q
    · simp [natL, hqj] at hj
    · have : u = .int .i64 (q : Int) := by simp [natL, hqj] at hj; exact hj.symm
      rw [this]
      exact hqa.cell hqj
  · intro j u hj
    have hadd : (⟨w.heap.size, 0, none⟩ : Addr).add j = ⟨w.heap.size, j, none⟩ := by unfold Addr.add; split <;> simp_all
    rw [hadd, (Blk.new w 3 #[.int .i64 (x : Int)]).cell]
    simpa using hj
  · intro hr j hj
    have : j = 0 := by simpa using hj
    subst this
    refine ⟨?_, q4'.frozen _⟩
    rw [q4'.cell, Array.getElem?_eq_getElem (by omega)]
    rfl
  · intro hr
    have hroom := hqa.room (q := x) (by omega)
    have := h g off c ((w.alloc (.cells #[.int .i64 (x : Int)] 3)).setCell ⟨g, off + n, none⟩ (.int .i64 (x : Int))) hroom (hka.setCell (p := ⟨g, off + n, none⟩) (fun _ => rfl) _) (.inl rfl) (by have := q4.lt; simp; omega)
    rw [Nat.mul_one]
    exact this
  · intro hg v' w' hown hgrow
    have hka' : Kept (w.alloc (.cells #[.int .i64 (x : Int)] 3)) w' (fun k => k = g) := ⟨hgrow.os, hgrow.tape, hgrow.output, hgrow.size, fun k hk hn => hgrow.block k hk (by simp)⟩
    rcases hown.2 with ⟨rfl, h0⟩ | ⟨g', c', cur', rfl, hb2, hh, _⟩
    · exact absurd h0 (by omega)
    · have hsz : w.heap.size < g' := by have : (w.alloc (.cells #[.int .i64 (x : Int)] 3)).heap.size = w.heap.size + 1 := by simp
                                        omega
      refine h g' 0 c' w' (QRow.of_own (base := base) (own_mono ?_ (show base ≤ (w.alloc (.cells #[.int .i64 (x : Int)] 3)).heap.size by simp; omega))) (hka.trans hka' fun _ _ e => e) (.inr (by omega)) (Array.getElem?_eq_some_iff.1 hh).1
      have e : (natL (qs ++ [x])).map (Value.int .i64) = (natL qs).map (Value.int .i64) ++ [.int .i64 (x : Int)] := by rw [natL_snoc, List.map_append]; rfl
      rw [e]
      exact hown
end Go.Proofs.YtakpmdmjbgipiaaGreatDoor
