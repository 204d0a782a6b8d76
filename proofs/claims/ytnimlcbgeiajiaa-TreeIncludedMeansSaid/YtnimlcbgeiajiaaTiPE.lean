/-
  The law TreeJoinMeans: the walk.
  tree.Included and tree.Same: the walks.
  The law TreeIncludedMeans: the walk.
  TreeValidates: the walk of the law.
  Arguments that come in: an automaton by value reads as data; what a law leaves behind.
  TreeValidates: for every automaton, the program's Validate and the document's give the same error, and the program knows its small tree and automaton. No condition.
  A shape with labels that comes in.
-/
import Derived.ProofKit
import Derived.Deep.Slices
import Derived.Deep.Fields
import Derived.Test.YtnimlcbgeiajiaaTiPA
import Derived.Test.YtnimlcbgeiajiaaTiPC
import Derived.Test.YtnimlcbgeiajiaaTiPD
import Derived.Test.YtnimlcbgeiajiaaTiPB
import Derived.Test.YtnimlcbgeiajiaaTiPG
import Derived.Test.YtnimlcbgeiajiaaTjP4

namespace Go.Proofs.Ytnimlcbgeiajiaa
open Go.RowKit

/-- The boxes of a law on two automata and a tree. -/
structure L3 (w0 w : World) (ga gb gt : Nat) (va vb : Array Value) (a b : TA) (D1 D2 : Option Addr) (c1 c2 : Nat) (sh lb : List Int) : Prop where
  below : Below w0.heap.size w0 w
  ba : Blk w ga 26 va
  bb : Blk w gb 26 vb
  bt : Blk w gt 40 #[.slice D1 sh.length c1, .slice D2 lb.length c2]
  ta : IsTA w w.heap.size (.agg va) a
  tb : IsTA w w.heap.size (.agg vb) b
  ss : Sl w w.heap.size 1 encI D1 sh
  sl : Sl w w.heap.size 1 encI D2 lb
theorem L3.step {w0 w w' : World} {ga gb gt : Nat} {va vb : Array Value} {a b : TA} {D1 D2 : Option Addr} {c1 c2 : Nat} {sh lb : List Int} (h : L3 w0 w ga gb gt va vb a b D1 D2 c1 c2 sh lb) (hb : Below w.heap.size w w') : L3 w0 w' ga gb gt va vb a b D1 D2 c1 c2 sh lb :=
  ⟨h.below.trans (hb.mono h.below.size), h.ba.below hb, h.bb.below hb, h.bt.below hb, h.ta.keep (fun _ hp => hb.cell hp) hb.size, h.tb.keep (fun _ hp => hb.cell hp) hb.size, (h.ss.below hb).mono hb.size, (h.sl.below hb).mono hb.size⟩
theorem isTA_inv {w : World} {B : Nat} {x0 x1 x2 x3 x4 : Value} {a : TA} (h : IsTA w B (.agg #[x0, x1, x2, x3, x4]) a) : ∃ A1 c1 A2 c2 A3 c3, x0 = .int .i64 a.letters ∧ x1 = .int .i64 a.states ∧ x2 = .slice A1 a.accept.length c1 ∧ x3 = .slice A2 a.leaves.length c2 ∧ x4 = .slice A3 a.branches.length c3 ∧
    Sl w B 1 encI A1 a.accept ∧ Sl w B 2 encL A2 a.leaves ∧ Sl w B 4 encBr A3 a.branches := by
  obtain ⟨A1, c1, A2, c2, A3, c3, e, s1, s2, s3⟩ := h
  simp only [Value.agg.injEq, Array.mk.injEq, List.cons.injEq, and_true] at e
  exact ⟨A1, c1, A2, c2, A3, c3, e.1, e.2.1, e.2.2.1, e.2.2.2.1, e.2.2.2.2, s1, s2, s3⟩
theorem tas2 {w w3 : World} {x0 x1 x2 x3 x4 y0 y1 y2 y3 y4 : Value} {a b : TA} (h : IsTA w w.heap.size (.agg #[x0, x1, x2, x3, x4]) a) (h' : IsTA w w.heap.size (.agg #[y0, y1, y2, y3, y4]) b) (hb : Below w.heap.size w w3) (hB : Blk w3 w.heap.size 26 #[x0, x1, x2, x3, x4, y0, y1, y2, y3, y4]) :
    TAs w3 w3.heap.size (some ⟨w.heap.size, 0, none⟩) [a, b] := by
  obtain ⟨A1, c1, A2, c2, A3, c3, rfl, rfl, rfl, rfl, rfl, s1, s2, s3⟩ := isTA_inv h
  obtain ⟨A4, c4, A5, c5, A6, c6, rfl, rfl, rfl, rfl, rfl, s4, s5, s6⟩ := isTA_inv h'
  have hk : ∀ p : Addr, p.block < w.heap.size → w3.cell? p = w.cell? p := fun p hp => hb.cell hp
  refine ⟨by simp, fun _ => ⟨w.heap.size, 0, rfl, hB.lt, fun k x hx => ?_⟩⟩
  match k, hx with
  | 0, hx =>
    simp at hx
    subst hx
    exact ⟨A1, c1, A2, c2, A3, c3, hB.cell 0, hB.cell 1, hB.cell 2, hB.cell 3, hB.cell 4, s1.keep hk hb.size, s2.keep hk hb.size, s3.keep hk hb.size⟩
  | 1, hx =>
    simp at hx
    subst hx
    exact ⟨A4, c4, A5, c5, A6, c6, hB.cell 5, hB.cell 6, hB.cell 7, hB.cell 8, hB.cell 9, s4.keep hk hb.size, s5.keep hk hb.size, s6.keep hk hb.size⟩
  | k + 2, hx => simp at hx

/-- joined has succeeded. -/
def JoinOK (w' : World) (base : Nat) (j : Bool → Bool → Bool) (l : List TA) (v : Value) : Prop :=
  ∃ L ac lf t, (∀ a ∈ l, a.letters.toNat = L) ∧ OwnTA w' base v L ac.length (accIdx ac) (plLv lf) (plBr L ac.length t) ∧ MOK L ac lf t ∧ ac.length ≤ 64 ∧ Canon L ac.length (mleaf lf) (mbr t) (macc ac) (langJ j l)
theorem join_two {w w' : World} {base base' : Nat} {j j' : Bool → Bool → Bool} {l : List TA} {r r' : Value} (h : JoinR w base j l r) (h' : JoinR w' base' j' l r') :
    (∃ e : Int, e ≠ 0 ∧ r = .tuple #[zeroTA, .int .i64 e] ∧ r' = .tuple #[zeroTA, .int .i64 e]) ∨
    (chkL l = true ∧ ∃ v v', r = .tuple #[v, .int .i64 0] ∧ r' = .tuple #[v', .int .i64 0] ∧ JoinOK w base j l v ∧ JoinOK w' base' j' l v') := by
  have hx : ∀ {p : Prop}, (l = [] ∨ chkL l = false) → l ≠ [] → chkL l = true → p := fun h h1 h2 => by
    rcases h with h | h
    · exact absurd h h1
    · rw [h2] at h; cases h
  have hy : ∀ {p : Prop} {s : Nat}, ((∃ a ∈ l, a.Large) ∨ (∀ a ∈ l, ¬ a.Large) ∧ ∃ s, SzR l s ∧ 64 < s) → (∀ a ∈ l, ¬ a.Large) → SzR l s → s ≤ 64 → p := fun h h1 h2 h3 => by
    rcases h with ⟨a, ha, hl⟩ | ⟨-, s', h4, h5⟩
    · exact absurd hl (h1 a ha)
    · have := h2.eq h4; omega
  rcases h with ⟨h1, rfl⟩ | ⟨h1, h2, h3, rfl⟩ | ⟨h1, h2, h3, s, v, L, ac, lf, t, h4, h5, rfl, h6⟩ <;>
    rcases h' with ⟨h1', rfl⟩ | ⟨h1', h2', h3', rfl⟩ | ⟨h1', h2', h3', s', v', L', ac', lf', t', h4', h5', rfl, h6'⟩
  · exact .inl ⟨1, by omega, rfl, rfl⟩
  · exact hx h1 h1' h2'
  · exact hx h1 h1' h2'
  · exact hx h1' h1 h2
  · exact .inl ⟨4, by omega, rfl, rfl⟩
  · exact hy h3 h3' h4' h5'
  · exact hx h1' h1 h2
  · exact hy h3' h3 h4 h5
  · exact .inr ⟨h2, v, v', rfl, rfl, ⟨L, ac, lf, t, h6⟩, ⟨L', ac', lf', t', h6'⟩⟩
/-- What joined gives reads as an automaton of the joined language. -/
theorem JoinOK.read {w : World} {base : Nat} {j : Bool → Bool → Bool} {a b : TA} {v : Value} (h : JoinOK w base j [a, b] v) (hv : a.valid = true) : ∃ u : TA, IsTA w w.heap.size v u ∧ u.valid = true ∧ u.letters = a.letters ∧ ∀ t : Tr, t.ok a.letters.toNat → u.lang t = j (a.lang t) (b.lang t) := by
  obtain ⟨L, ac, lf, t, hL, ho, hok, h64, hc⟩ := h
  have hLa := hL a (by simp)
  subst hLa
  obtain ⟨h1, h8, -⟩ := TA.valid_parts hv
  refine ⟨plainA a.letters.toNat ac lf t, own_ta ho, plain_valid hok (by omega) (by omega) h64, ?_, fun tr htr => ?_⟩
  · show ((a.letters.toNat : Nat) : Int) = a.letters
    omega
  · rw [plain_lang hok tr htr, hc.lang tr htr]
    rfl
theorem accT_shape (a : TA) (sh lb : List Int) : ∃ x y, accT a sh lb = .tuple #[.bool x, .int .i64 y] := by
  unfold accT
  split
  · exact ⟨_, _, rfl⟩
  · exact ⟨_, _, rfl⟩
theorem small_branches {a : TA} (h : a.small = true) : a.branches.length ≤ 900000 := by
  simp only [TA.small, TA.big, Bool.and_eq_true, Bool.not_eq_true', Bool.or_eq_false_iff, decide_eq_false_iff_not] at h
  omega
end Go.Proofs.Ytnimlcbgeiajiaa

namespace Go.Proofs.Ytnimlcbgeiajiaa
open Go.RowKit

theorem empty_law {L : Nat} {ac : List Bool} {lf : List Nat} {t : List (List (List Nat))} {Λ : Tr → Bool} (hc : Canon L ac.length (mleaf lf) (mbr t) (macc ac) Λ) : (!decide (true ∈ ac)) = true ↔ ∀ u : Tr, u.ok L → Λ u = false := by
  rw [Bool.not_eq_true', decide_eq_false_iff_not]
  constructor
  · intro h u hu
    cases e : Λ u with
    | false => rfl
    | true =>
      refine absurd ?_ h
      have := hc.lang u hu
      rw [e] at this
      obtain ⟨x, hx⟩ := get_lt (hc.isM.run_lt u hu)
      unfold macc at this
      rw [getD_some hx] at this
      rw [← this]
      exact List.mem_of_getElem? hx
  · intro h hm
    obtain ⟨q, hq⟩ := List.mem_iff_getElem?.1 hm
    obtain ⟨u, hu, e⟩ := reach_run.1 (hc.isM.reach q (lt_of_get hq))
    have := hc.lang u hu
    rw [h u hu, e] at this
    unfold macc at this
    rw [getD_some hq] at this
    cases this

theorem data_same {L : Nat} {ac ac' : List Bool} {lf lf' : List Nat} {t t' : List (List (List Nat))} {Λ Λ' : Tr → Bool} (h : MOK L ac lf t) (h' : MOK L ac' lf' t') (hc : Canon L ac.length (mleaf lf) (mbr t) (macc ac) Λ)
    (hc' : Canon L ac'.length (mleaf lf') (mbr t') (macc ac') Λ') : (ac = ac' ∧ lf = lf' ∧ t = t') ↔ ∀ u : Tr, u.ok L → Λ u = Λ' u := by
  constructor
  · rintro ⟨rfl, rfl, rfl⟩ u hu
    rw [← hc.lang u hu, ← hc'.lang u hu]
  · intro hΛ
    obtain ⟨hn, h1, h2, h3⟩ := hc.unique hc' hΛ
    have e1 : ac = ac' := by
      refine List.ext_getElem? fun i => ?_
      by_cases hi : i < ac.length
      · obtain ⟨x, hx⟩ := get_lt hi
        obtain ⟨y, hy⟩ := get_lt (l := ac') (i := i) (by omega)
        have := h3 i hi
        unfold macc at this
        rw [getD_some hx, getD_some hy] at this
        rw [hx, hy, this]
      · rw [List.getElem?_eq_none (by omega), List.getElem?_eq_none (by omega)]
    have e2 : lf = lf' := by
      have a1 := h.lfl
      have a2 := h'.lfl
      refine List.ext_getElem? fun i => ?_
      by_cases hi : i < L
      · obtain ⟨x, hx⟩ := get_lt (l := lf) (i := i) (by omega)
        obtain ⟨y, hy⟩ := get_lt (l := lf') (i := i) (by omega)
        have := h1 i hi
        unfold mleaf at this
        rw [getD_some hx, getD_some hy] at this
        rw [hx, hy, this]
      · rw [List.getElem?_eq_none (by omega), List.getElem?_eq_none (by omega)]
    subst e1 e2
    refine ⟨rfl, rfl, tab_ext h h' fun i hi j hj => ?_⟩
    obtain ⟨r, hr⟩ := get_lt (l := t) (i := i) (by rw [h.tl]; exact hi)
    obtain ⟨row, hrow⟩ := get_lt (l := r) (i := j) (by rw [(h.rl i r hr).1]; exact hj)
    obtain ⟨r', hr'⟩ := get_lt (l := t') (i := i) (by rw [h'.tl]; exact hi)
    obtain ⟨row', hrow'⟩ := get_lt (l := r') (i := j) (by rw [(h'.rl i r' hr').1]; exact hj)
    have a1 := (h.rl i r hr).2 j row hrow
    have a2 := (h'.rl i r' hr').2 j row' hrow'
    unfold rowAt
    rw [getD_some hr, getD_some hr', getD_some hrow, getD_some hrow']
    refine List.ext_getElem? fun k => ?_
    by_cases hk : k < L
    · obtain ⟨x, hx⟩ := get_lt (l := row) (i := k) (by omega)
      obtain ⟨y, hy⟩ := get_lt (l := row') (i := k) (by omega)
      have := h2 k i j hk hi hj
      unfold mbr at this
      rw [getD_some hr, getD_some hr', getD_some hrow, getD_some hrow', getD_some hx, getD_some hy] at this
      rw [hx, hy, this]
    · rw [List.getElem?_eq_none (by omega), List.getElem?_eq_none (by omega)]

/-- What Included and Same return. -/
def IncR (P : Prop) (a b : TA) (r : Value) : Prop :=
  (chkL [a, b] = false ∧ r = .tuple #[.bool false, .int .i64 1]) ∨
  (chkL [a, b] = true ∧ (a.Large ∨ b.Large) ∧ r = .tuple #[.bool false, .int .i64 4]) ∨
  (chkL [a, b] = true ∧ ¬ a.Large ∧ ¬ b.Large ∧ ∃ x : Bool, r = .tuple #[.bool x, .int .i64 0] ∧ (x = true ↔ P))
def Incl (a b : TA) : Prop := ∀ u : Tr, u.ok a.letters.toNat → a.lang u = true → b.lang u = true
def SameL (a b : TA) : Prop := ∀ u : Tr, u.ok a.letters.toNat → a.lang u = b.lang u

set_option maxHeartbeats 4000000 in
set_option maxRecDepth 100000 in
theorem included_any {v v' : Value} {a b : TA} {w : World} (h : IsTA w w.heap.size v a) (h' : IsTA w w.heap.size v' b) (ha : a.branches.length ≤ 900000) (hb : b.branches.length ≤ 900000) :
    Calls Try.prog 38 #[v, v'] w (Ret fun r w' => IncR (Incl a b) a b r ∧ Below w.heap.size w w') := by
  obtain ⟨A1, c1, A2, c2, A3, c3, rfl, h1, h2, h3⟩ := h
  obtain ⟨A4, c4, A5, c5, A6, c6, rfl, h4, h5, h6⟩ := h'
  obtain ⟨w1, hw1, hb1, hB1, hk1⟩ := box_blk w #[.int .i64 a.letters, .int .i64 a.states, .slice A1 a.accept.length c1, .slice A2 a.leaves.length c2, .slice A3 a.branches.length c3] 26
  obtain ⟨w2, hw2, hb2, hB2, hk2⟩ := box_blk w1 #[.int .i64 b.letters, .int .i64 b.states, .slice A4 b.accept.length c4, .slice A5 b.leaves.length c5, .slice A6 b.branches.length c6] 26
  have z1 := hb1.size
  have z2 := hb2.size
  have hb02 := hb1.trans (hb2.mono z1)
  have hB12 := hB1.kept hk2 id
  have hcb1 := hB12.cell
  have hcb2 := hB2.cell
  have hT1 : Hid (IsTA w2 w2.heap.size (.agg #[.int .i64 a.letters, .int .i64 a.states, .slice A1 a.accept.length c1, .slice A2 a.leaves.length c2, .slice A3 a.branches.length c3]) a) := IsTA.keep ⟨A1, c1, A2, c2, A3, c3, rfl, h1, h2, h3⟩ (fun _ hp => hb02.cell hp) hb02.size
  have hT2 : Hid (IsTA w2 w2.heap.size (.agg #[.int .i64 b.letters, .int .i64 b.states, .slice A4 b.accept.length c4, .slice A5 b.leaves.length c5, .slice A6 b.branches.length c6]) b) := IsTA.keep ⟨A4, c4, A5, c5, A6, c6, rfl, h4, h5, h6⟩ (fun _ hp => hb02.cell hp) hb02.size
  have hH02 := hide hb02
  clear h1 h2 h3 h4 h5 h6 hb02 hb1 hb2
  go_enter Try.func38, Try.ntmps38
  go_wp2_with fail
  refine Calls.ret (pair_any hT1.out hT2.out ha hb) ?_
  rintro v w3 ⟨hb3, hR⟩
  have hb03 := hide (hH02.out.trans (hb3.mono hH02.out.size))
  rcases hR with ⟨hch, x, y, rfl⟩ | ⟨hch, hl, x, y, rfl⟩ | ⟨hch, hla, hlb, gM, ac, lf, t, gN, ac', lf', t', rfl, hM, hok, hn, hcan, hN, hok', hn', hcan'⟩
  · have hC := hide hch
    clear hch hb3
    go_wp2_with fail
    exact bodyPost_ret (v := .tuple #[.bool false, .int .i64 1]) (by simp [results, Try.results38, go_sem]) rfl ⟨.inl ⟨hC.out, rfl⟩, hb03.out⟩
  · have hC := hide hch
    have hLL := hide hl
    clear hch hl hb3
    go_wp2_with fail
    exact bodyPost_ret (v := .tuple #[.bool false, .int .i64 4]) (by simp [results, Try.results38, go_sem]) rfl ⟨.inr (.inl ⟨hC.out, hLL.out, rfl⟩), hb03.out⟩
  · have hC := hide hch
    have hLA := hide hla
    have hLB := hide hlb
    have hMM := hide hM
    have hNN := hide hN
    have hOK := hide hok
    have hOK' := hide hok'
    have hCA := hide hcan
    have hCB := hide hcan'
    clear hch hla hlb hM hN hok hok' hcan hcan' hb3
    go_wp2_with fail
    refine Calls.ret (op_any (.inr (.inr ⟨rfl, rfl⟩)) w3) ?_
    rintro v w4 ⟨rfl, hb4⟩
    have hM4 := hide (hMM.out.keep0 (Kept.of_below hb4 (fun _ => False)))
    have hN4 := hide (hNN.out.keep0 (Kept.of_below hb4 (fun _ => False)))
    have hb04 := hide (hb03.out.trans (hb4.mono hb03.out.size))
    have hv := (TA.valid_parts (chk2.1 hC.out).1)
    have hL1 : 0 < a.letters.toNat := by have := hv.1; omega
    have hL8 : a.letters.toNat ≤ 8 := by have := hv.2.1; omega
    clear hv hb4
    go_wp2_with fail
    obtain ⟨va, vl, vb, hM5⟩ := hM4.out
    obtain ⟨va', vl', vb', hN5⟩ := hN4.out
    refine Calls.ret (product_any hM5 hN5 hOK.out hOK'.out hL1 hL8 hn hn' (.inr (.inr ⟨rfl, rfl⟩))) ?_
    rintro v w5 ⟨hb5, gR, ar, lr, tr, rfl, -, hMr, hokr, hle, hcr⟩
    have hMR := hide hMr
    have hCR := hide hcr
    have hb05 := hide (hb04.out.trans (hb5.mono hb04.out.size))
    have hlen : ar.length ≤ 100000 := by have : ac.length * ac'.length ≤ 64 * 64 := Nat.mul_le_mul hn hn'; omega
    clear hMr hokr hle hcr hb5 hM5 hN5
    go_wp2_with fail
    obtain ⟨_, _, _, hM6⟩ := hMR.out
    refine (empty_any hM6 hlen).mono ?_
    rintro e w6 ⟨rfl, rfl⟩
    go_wp2_with fail
    refine bodyPost_ret (v := .tuple #[.bool (!decide (true ∈ ar)), .int .i64 0]) (by simp [results, Try.results38, go_sem]) rfl ⟨.inr (.inr ⟨hC.out, hLA.out, hLB.out, _, rfl, ?_⟩), hb05.out⟩
    rw [empty_law hCR.out]
    constructor
    · intro hh u hu hx
      have := hh u hu
      rw [hCA.out.lang u hu, hCB.out.lang u hu, hx] at this
      cases hy : b.lang u with
      | true => rfl
      | false => rw [hy] at this; cases this
    · intro hh u hu
      rw [hCA.out.lang u hu, hCB.out.lang u hu]
      cases hx : a.lang u with
      | false => rfl
      | true => rw [hh u hu hx]; rfl

set_option maxHeartbeats 4000000 in
set_option maxRecDepth 100000 in
theorem same_any {v v' : Value} {a b : TA} {w : World} (h : IsTA w w.heap.size v a) (h' : IsTA w w.heap.size v' b) (ha : a.branches.length ≤ 900000) (hb : b.branches.length ≤ 900000) :
    Calls Try.prog 40 #[v, v'] w (Ret fun r w' => IncR (SameL a b) a b r ∧ Below w.heap.size w w') := by
  obtain ⟨A1, c1, A2, c2, A3, c3, rfl, h1, h2, h3⟩ := h
  obtain ⟨A4, c4, A5, c5, A6, c6, rfl, h4, h5, h6⟩ := h'
  obtain ⟨w1, hw1, hb1, hB1, hk1⟩ := box_blk w #[.int .i64 a.letters, .int .i64 a.states, .slice A1 a.accept.length c1, .slice A2 a.leaves.length c2, .slice A3 a.branches.length c3] 26
  obtain ⟨w2, hw2, hb2, hB2, hk2⟩ := box_blk w1 #[.int .i64 b.letters, .int .i64 b.states, .slice A4 b.accept.length c4, .slice A5 b.leaves.length c5, .slice A6 b.branches.length c6] 26
  have z1 := hb1.size
  have z2 := hb2.size
  have hb02 := hb1.trans (hb2.mono z1)
  have hB12 := hB1.kept hk2 id
  have hcb1 := hB12.cell
  have hcb2 := hB2.cell
  have hT1 : Hid (IsTA w2 w2.heap.size (.agg #[.int .i64 a.letters, .int .i64 a.states, .slice A1 a.accept.length c1, .slice A2 a.leaves.length c2, .slice A3 a.branches.length c3]) a) := IsTA.keep ⟨A1, c1, A2, c2, A3, c3, rfl, h1, h2, h3⟩ (fun _ hp => hb02.cell hp) hb02.size
  have hT2 : Hid (IsTA w2 w2.heap.size (.agg #[.int .i64 b.letters, .int .i64 b.states, .slice A4 b.accept.length c4, .slice A5 b.leaves.length c5, .slice A6 b.branches.length c6]) b) := IsTA.keep ⟨A4, c4, A5, c5, A6, c6, rfl, h4, h5, h6⟩ (fun _ hp => hb02.cell hp) hb02.size
  have hH02 := hide hb02
  clear h1 h2 h3 h4 h5 h6 hb02 hb1 hb2
  go_enter Try.func40, Try.ntmps40
  go_wp2_with fail
  refine Calls.ret (pair_any hT1.out hT2.out ha hb) ?_
  rintro v w3 ⟨hb3, hR⟩
  have hb03 := hide (hH02.out.trans (hb3.mono hH02.out.size))
  rcases hR with ⟨hch, x, y, rfl⟩ | ⟨hch, hl, x, y, rfl⟩ | ⟨hch, hla, hlb, gM, ac, lf, t, gN, ac', lf', t', rfl, hM, hok, hn, hcan, hN, hok', hn', hcan'⟩
  · have hC := hide hch
    clear hch hb3
    go_wp2_with fail
    exact bodyPost_ret (v := .tuple #[.bool false, .int .i64 1]) (by simp [results, Try.results40, go_sem]) rfl ⟨.inl ⟨hC.out, rfl⟩, hb03.out⟩
  · have hC := hide hch
    have hLL := hide hl
    clear hch hl hb3
    go_wp2_with fail
    exact bodyPost_ret (v := .tuple #[.bool false, .int .i64 4]) (by simp [results, Try.results40, go_sem]) rfl ⟨.inr (.inl ⟨hC.out, hLL.out, rfl⟩), hb03.out⟩
  · have hC := hide hch
    have hLA := hide hla
    have hLB := hide hlb
    have hMM := hide hM
    have hNN := hide hN
    have hOK := hide hok
    have hOK' := hide hok'
    have hCA := hide hcan
    have hCB := hide hcan'
    have hv := (TA.valid_parts (chk2.1 hC.out).1)
    have hL8 : a.letters.toNat ≤ 8 := by have := hv.2.1; omega
    clear hch hla hlb hM hN hok hok' hcan hcan' hb3 hv
    go_wp2_with fail
    obtain ⟨va, vl, vb, hM5⟩ := hMM.out
    obtain ⟨va', vl', vb', hN5⟩ := hNN.out
    refine Calls.ret (equal_any hM5 hN5 hOK.out hOK'.out hL8 hn hn') ?_
    rintro v w4 ⟨rfl, hb4⟩
    have hb04 := hide (hb03.out.trans (hb4.mono hb03.out.size))
    clear hb4 hM5 hN5
    go_wp2_with fail
    refine bodyPost_ret (v := .tuple #[.bool (decide (ac = ac' ∧ lf = lf' ∧ t = t')), .int .i64 0]) (by simp [results, Try.results40, go_sem]) rfl ⟨.inr (.inr ⟨hC.out, hLA.out, hLB.out, _, rfl, ?_⟩), hb04.out⟩
    rw [decide_eq_true_eq]
    exact data_same hOK.out hOK'.out hCA.out hCB.out
end Go.Proofs.Ytnimlcbgeiajiaa

namespace Go.Proofs.Ytnimlcbgeiajiaa
open Go.RowKit

section
variable {P P1 P2 P3 : Prop} {a b : TA} {r : Value} {x y s : Bool} {e e' e'' : Int}
theorem IncR.shape (h : IncR P a b r) : ∃ (x : Bool) (e : Int), r = .tuple #[.bool x, .int .i64 e] := by
  rcases h with ⟨_, rfl⟩ | ⟨_, _, rfl⟩ | ⟨_, _, _, x, rfl, _⟩
  · exact ⟨_, _, rfl⟩
  · exact ⟨_, _, rfl⟩
  · exact ⟨_, _, rfl⟩
theorem tup_eq {x' : Bool} (h : Value.tuple #[.bool x, .int .i64 e] = .tuple #[.bool x', .int .i64 e']) : x = x' ∧ e = e' := by
  injection h with h
  simpa using h
theorem IncR.bad (h : IncR P a b (.tuple #[.bool x, .int .i64 e])) (hc : chkL [a, b] = false) : e = 1 := by
  rcases h with ⟨_, h⟩ | ⟨h, _⟩ | ⟨h, _⟩
  · exact (tup_eq h).2
  · rw [hc] at h; cases h
  · rw [hc] at h; cases h
theorem IncR.large (h : IncR P a b (.tuple #[.bool x, .int .i64 e])) (hc : chkL [a, b] = true) (hl : a.Large ∨ b.Large) : e = 4 := by
  rcases h with ⟨h, _⟩ | ⟨_, _, h⟩ | ⟨_, h1, h2, _⟩
  · rw [hc] at h; cases h
  · exact (tup_eq h).2
  · exact (hl.elim h1 h2).elim
theorem IncR.good (h : IncR P a b (.tuple #[.bool x, .int .i64 e])) (hc : chkL [a, b] = true) (h1 : ¬ a.Large) (h2 : ¬ b.Large) : e = 0 ∧ (x = true ↔ P) := by
  rcases h with ⟨h, _⟩ | ⟨_, hl, _⟩ | ⟨_, _, _, x', h, h3⟩
  · rw [hc] at h; cases h
  · exact (hl.elim h1 h2).elim
  · obtain ⟨rfl, rfl⟩ := tup_eq h
    exact ⟨rfl, h3⟩
theorem chk_comm (a b : TA) : chkL [b, a] = chkL [a, b] := by
  rw [Bool.eq_iff_iff, chk2, chk2]
  exact ⟨fun ⟨h1, h2, h3⟩ => ⟨h2, h1, h3.symm⟩, fun ⟨h1, h2, h3⟩ => ⟨h2, h1, h3.symm⟩⟩
theorem inc_three (h1 : IncR P1 a b (.tuple #[.bool x, .int .i64 e])) (h2 : IncR P2 b a (.tuple #[.bool y, .int .i64 e'])) (h3 : IncR P3 a b (.tuple #[.bool s, .int .i64 e''])) :
    (e ≠ 0 ∧ e' = e ∧ e'' = e) ∨ (chkL [a, b] = true ∧ ¬ a.Large ∧ ¬ b.Large ∧ e = 0 ∧ e' = 0 ∧ e'' = 0 ∧ (x = true ↔ P1) ∧ (y = true ↔ P2) ∧ (s = true ↔ P3)) := by
  cases hc : chkL [a, b] with
  | false =>
    have e1 := h1.bad hc
    have e2 := h2.bad (by rw [chk_comm, hc])
    have e3 := h3.bad hc
    exact .inl ⟨by omega, by omega, by omega⟩
  | true =>
    by_cases hl : a.Large ∨ b.Large
    · have e1 := h1.large hc hl
      have e2 := h2.large (by rw [chk_comm, hc]) hl.symm
      have e3 := h3.large hc hl
      exact .inl ⟨by omega, by omega, by omega⟩
    · have la : ¬ a.Large := fun h => hl (.inl h)
      have lb : ¬ b.Large := fun h => hl (.inr h)
      obtain ⟨e1, q1⟩ := h1.good hc la lb
      obtain ⟨e2, q2⟩ := h2.good (by rw [chk_comm, hc]) lb la
      obtain ⟨e3, q3⟩ := h3.good hc la lb
      exact .inr ⟨rfl, la, lb, e1, e2, e3, q1, q2, q3⟩
theorem both_same (hl : b.letters = a.letters) (hx : x = true ↔ Incl a b) (hy : y = true ↔ Incl b a) (hs : s = true ↔ SameL a b) : s = (x && y) := by
  rw [Bool.eq_iff_iff, Bool.and_eq_true, hs, hx, hy]
  constructor
  · exact fun h => ⟨fun u hu ha => by rw [← h u hu, ha], fun u hu hb => by rw [hl] at hu; rw [h u hu, hb]⟩
  · rintro ⟨h1, h2⟩ u hu
    rw [Bool.eq_iff_iff]
    exact ⟨h1 u hu, h2 u (by rw [hl]; exact hu)⟩
end
theorem plain_iff {L : Nat} {ac ac' : List Bool} {lf lf' : List Nat} {t t' : List (List (List Nat))} {Λ Λ' : Tr → Bool} (h : MOK L ac lf t) (h' : MOK L ac' lf' t') (hc : Canon L ac.length (mleaf lf) (mbr t) (macc ac) Λ)
    (hc' : Canon L ac'.length (mleaf lf') (mbr t') (macc ac') Λ') : plainA L ac lf t = plainA L ac' lf' t' ↔ ∀ u : Tr, u.ok L → Λ u = Λ' u := by
  constructor
  · intro e u hu
    rw [← hc.lang u hu, ← hc'.lang u hu, ← plain_lang h u hu, ← plain_lang h' u hu, e]
  · intro hΛ
    exact (plain_same h h' hc hc' hΛ).symm

set_option maxHeartbeats 16000000 in
set_option maxRecDepth 100000 in
theorem lawIncludedMeans {v v' : Value} {a b : TA} {w : World} {c1' c2' : Nat} {D1 D2 : Option Addr} {sh lb : List Int} (h : IsTA w w.heap.size v a) (h' : IsTA w w.heap.size v' b) (hs : Sl w w.heap.size 1 encI D1 sh) (hl : Sl w w.heap.size 1 encI D2 lb) :
    Calls Try.prog 15 #[v, v', .agg #[.slice D1 sh.length c1', .slice D2 lb.length c2']] w (Ret fun v w' => v = .bool true ∧ Below w.heap.size w w') := by
  obtain ⟨A1, c1, A2, c2, A3, c3, rfl, h1, h2, h3⟩ := h
  obtain ⟨A4, c4, A5, c5, A6, c6, rfl, h4, h5, h6⟩ := h'
  obtain ⟨w1, hw1, hb1, hB1, hk1⟩ := box_blk w #[.int .i64 a.letters, .int .i64 a.states, .slice A1 a.accept.length c1, .slice A2 a.leaves.length c2, .slice A3 a.branches.length c3] 26
  obtain ⟨w2, hw2, hb2, hB2, hk2⟩ := box_blk w1 #[.int .i64 b.letters, .int .i64 b.states, .slice A4 b.accept.length c4, .slice A5 b.leaves.length c5, .slice A6 b.branches.length c6] 26
  obtain ⟨w3, hw3, hb3, hB3, hk3⟩ := box_blk w2 #[.slice D1 sh.length c1', .slice D2 lb.length c2'] 40
  have hns := hs.1
  have hnl := hl.1
  have hb03 : Below w.heap.size w w3 := by
    have z1 := hb1.size
    have z2 := hb2.size
    exact (hb1.trans (hb2.mono z1)).trans (hb3.mono (by omega))
  have hX3 : L3 w w3 w.heap.size w1.heap.size w2.heap.size #[.int .i64 a.letters, .int .i64 a.states, .slice A1 a.accept.length c1, .slice A2 a.leaves.length c2, .slice A3 a.branches.length c3] #[.int .i64 b.letters, .int .i64 b.states, .slice A4 b.accept.length c4, .slice A5 b.leaves.length c5, .slice A6 b.branches.length c6] a b D1 D2 c1' c2' sh lb :=
    ⟨hb03, (hB1.kept hk2 id).kept hk3 id, hB2.kept hk3 id, hB3, IsTA.keep ⟨A1, c1, A2, c2, A3, c3, rfl, h1, h2, h3⟩ (fun _ hp => hb03.cell hp) hb03.size, IsTA.keep ⟨A4, c4, A5, c5, A6, c6, rfl, h4, h5, h6⟩ (fun _ hp => hb03.cell hp) hb03.size,
      (hs.below hb03).mono hb03.size, (hl.below hb03).mono hb03.size⟩
  have hca := hX3.ba.cell
  have hcb := hX3.bb.cell
  have hct := hX3.bt.cell
  have hH3 := hide hX3
  clear hX3 hb03 h1 h2 h3 h4 h5 h6 hs hl hB1 hB2 hB3 hb1 hb2 hb3 hk1 hk2 hk3
  go_enter Try.func15, Try.ntmps15
  go_wp2_with fail
  refine Calls.ret (small_any hH3.out.ta) ?_
  rintro v w4 ⟨rfl, hb4⟩
  have hX4 := hH3.out.step hb4
  have hca4 := hX4.ba.cell
  have hcb4 := hX4.bb.cell
  have hct4 := hX4.bt.cell
  have hH4 := hide hX4
  clear hca hcb hct hX4 hb4
  cases hsa : a.small with
  | false =>
    go_wp2_with fail
    refine Calls.ret (known_any w4) ?_
    rintro v w5 ⟨rfl, hb5⟩
    have hfin := hide (hH4.out.step hb5).below
    clear hb5
    go_wp2_with fail
    go_ret
    exact ⟨rfl, hfin.out⟩
  | true =>
    have hSA := hide (small_branches hsa)
    clear hsa
    go_wp2_with fail
    refine Calls.ret (small_any hH4.out.tb) ?_
    rintro v w5 ⟨rfl, hb5⟩
    have hX5 := hH4.out.step hb5
    have hca5 := hX5.ba.cell
    have hcb5 := hX5.bb.cell
    have hct5 := hX5.bt.cell
    have hH5 := hide hX5
    clear hca4 hcb4 hct4 hX5 hb5
    cases hsb : b.small with
    | false =>
      go_wp2_with fail
      refine Calls.ret (known_any w5) ?_
      rintro v w6 ⟨rfl, hb6⟩
      have hfin := hide (hH5.out.step hb6).below
      clear hb6
      go_wp2_with fail
      go_ret
      exact ⟨rfl, hfin.out⟩
    | true =>
      have hSB := hide (small_branches hsb)
      clear hsb
      go_wp2_with fail
      refine Calls.ret (long_any hH5.out.ss hH5.out.sl) ?_
      rintro v w6 ⟨rfl, hb6⟩
      have hX6 := hH5.out.step hb6
      have hca6 := hX6.ba.cell
      have hcb6 := hX6.bb.cell
      have hct6 := hX6.bt.cell
      have hH6 := hide hX6
      clear hca5 hcb5 hct5 hX6 hb6
      cases hlong : (decide (60 < sh.length) || decide (60 < lb.length)) with
      | true =>
        go_wp2_with fail
        refine Calls.ret (known_any w6) ?_
        rintro v w7 ⟨rfl, hb7⟩
        have hfin := hide (hH6.out.step hb7).below
        clear hb7
        go_wp2_with fail
        go_ret
        exact ⟨rfl, hfin.out⟩
      | false =>
        clear hlong
        go_wp2_with fail
        refine Calls.ret (included_any hH6.out.ta hH6.out.tb hSA.out hSB.out) ?_
        rintro v w7 ⟨hI1, hb7⟩
        obtain ⟨x, e1, rfl⟩ := hI1.shape
        have hX7 := hH6.out.step hb7
        have hca7 := hX7.ba.cell
        have hcb7 := hX7.bb.cell
        have hct7 := hX7.bt.cell
        have hH7 := hide hX7
        have hHI1 := hide hI1
        clear hca6 hcb6 hct6 hX7 hb7 hI1
        go_wp2_with fail
        refine Calls.ret (included_any hH7.out.tb hH7.out.ta hSB.out hSA.out) ?_
        rintro v w8 ⟨hI2, hb8⟩
        obtain ⟨y, e2, rfl⟩ := hI2.shape
        have hX8 := hH7.out.step hb8
        have hca8 := hX8.ba.cell
        have hcb8 := hX8.bb.cell
        have hct8 := hX8.bt.cell
        have hH8 := hide hX8
        have hHI2 := hide hI2
        clear hca7 hcb7 hct7 hX8 hb8 hI2
        go_wp2_with fail
        refine Calls.ret (same_any hH8.out.ta hH8.out.tb hSA.out hSB.out) ?_
        rintro v w9 ⟨hI3, hb9⟩
        obtain ⟨s, e3, rfl⟩ := hI3.shape
        have hX9 := hH8.out.step hb9
        have hca9 := hX9.ba.cell
        have hcb9 := hX9.bb.cell
        have hct9 := hX9.bt.cell
        have hH9 := hide hX9
        clear hca8 hcb8 hct8 hX9 hb9
        rcases inc_three hHI1.out hHI2.out hI3 with ⟨he0, rfl, rfl⟩ | ⟨hchk, hla, hlb, rfl, rfl, rfl, hx, hy, hs⟩
        · have hne0 : (e3 == 0) = false := by simpa using he0
          clear hI3 hHI1 hHI2
          go_wp2_with fail
          refine Calls.ret (known_any w9) ?_
          rintro v w10 ⟨rfl, hb10⟩
          have hfin := hide (hH9.out.step hb10).below
          clear hb10
          go_wp2_with fail
          go_ret
          exact ⟨rfl, hfin.out⟩
        · obtain ⟨hva, hvb, hlab⟩ := chk2.1 hchk
          have hsxy := both_same hlab hx hy hs
          have hVA := hide hva
          have hVB := hide hvb
          have hLA := hide hla
          have hLB := hide hlb
          have hLAB := hide hlab
          have hXX := hide hx
          have hSS := hide hs
          clear hI3 hHI1 hHI2 hchk hva hvb hla hlb hlab hx hy hs
          subst hsxy
          obtain ⟨L, hL⟩ : ∃ L, a.letters.toNat = L := ⟨_, rfl⟩
          have hLL := hide hL
          clear hL
          go_wp2_with fail
          refine Calls.ret (Minimal_any _ a w9 hH9.out.ta hSA.out) ?_
          rintro v w10 ⟨hb10, hres⟩
          rcases hres with ⟨hv, -⟩ | ⟨-, hlg, -⟩ | ⟨-, -, ac, lf, t, _, rfl, hok, hn, hcan, hown⟩
          · rw [hVA.out] at hv; cases hv
          · exact (hLA.out hlg).elim
          rw [hLL.out] at hok hcan hown
          have hTM := own_ta hown
          obtain ⟨u1, u2, u3, rfl, ho1, ho2, ho3⟩ := hown
          obtain ⟨P1, m1, rfl⟩ := slice_of_own ho1
          obtain ⟨P2, m2, rfl⟩ := slice_of_own ho2
          obtain ⟨P3, m3, rfl⟩ := slice_of_own ho3
          obtain ⟨w11, hw11, hb11, hB11, hk11⟩ := box_blk w10 #[.int .i64 (L : Int), .int .i64 (ac.length : Int), .slice P1 (accIdx ac).length m1, .slice P2 (plLv lf).length m2, .slice P3 (plBr L ac.length t).length m3] 26
          have hX11 := (hH9.out.step hb10).step hb11
          have hTM11 := hide (hTM.keep (fun _ hp => hb11.cell hp) hb11.size)
          have hca11 := hX11.ba.cell
          have hcb11 := hX11.bb.cell
          have hct11 := hX11.bt.cell
          have hH11 := hide hX11
          have hBM := hide hB11
          have hOK := hide hok
          have hCA := hide hcan
          clear hca9 hcb9 hct9 hX11 hTM hb10 hb11 hB11 hk11 hok hcan ho1 ho2 ho3 hn
          go_wp2_with fail
          refine Calls.ret (Minimal_any _ b w11 hH11.out.tb hSB.out) ?_
          rintro v w12 ⟨hb12, hres⟩
          rcases hres with ⟨hv, -⟩ | ⟨-, hlg, -⟩ | ⟨-, -, ac', lf', t', _, rfl, hok, hn, hcan, hown⟩
          · rw [hVB.out] at hv; cases hv
          · exact (hLB.out hlg).elim
          rw [hLAB.out, hLL.out] at hok hcan hown
          have hTM := own_ta hown
          obtain ⟨u1, u2, u3, rfl, ho1, ho2, ho3⟩ := hown
          obtain ⟨Q1, k1, rfl⟩ := slice_of_own ho1
          obtain ⟨Q2, k2, rfl⟩ := slice_of_own ho2
          obtain ⟨Q3, k3, rfl⟩ := slice_of_own ho3
          obtain ⟨w13, hw13, hb13, hB13, hk13⟩ := box_blk w12 #[.int .i64 (L : Int), .int .i64 (ac'.length : Int), .slice Q1 (accIdx ac').length k1, .slice Q2 (plLv lf').length k2, .slice Q3 (plBr L ac'.length t').length k3] 26
          have hX13 := (hH11.out.step hb12).step hb13
          have hb1113 := hb12.trans (hb13.mono hb12.size)
          have hTN13 := hide (hTM.keep (fun _ hp => hb13.cell hp) hb13.size)
          have hTM13 := hide (hTM11.out.keep (fun _ hp => hb1113.cell hp) hb1113.size)
          have hBM13 := hide (hBM.out.below hb1113)
          have hBN13 := hide hB13
          have hca13 := hX13.ba.cell
          have hct13 := hX13.bt.cell
          have hH13 := hide hX13
          have hdec : Hid (decide (plainA L ac lf t = plainA L ac' lf' t') = (x && y)) := by
            show _ = _
            rw [Bool.eq_iff_iff, decide_eq_true_eq, hSS.out]
            unfold SameL
            rw [hLL.out]
            exact plain_iff hOK.out hok hCA.out hcan
          clear hca11 hcb11 hct11 hX13 hTM hb12 hb13 hb1113 hB13 hk13 hok hcan ho1 ho2 ho3 hn
          go_wp2_with fail
          refine Calls.ret (accepts_any hH13.out.ta hH13.out.ss hH13.out.sl (Nat.le_refl _) (Nat.le_refl _)) ?_
          rintro v w14 ⟨rfl, hb14⟩
          have hX14 := hH13.out.step hb14
          have hTM14 := hide (hTM13.out.keep (fun _ hp => hb14.cell hp) hb14.size)
          have hTN14 := hide (hTN13.out.keep (fun _ hp => hb14.cell hp) hb14.size)
          have hBM14 := hide (hBM13.out.below hb14)
          have hBN14 := hide (hBN13.out.below hb14)
          have hcb14 := hX14.bb.cell
          have hct14 := hX14.bt.cell
          have hH14 := hide hX14
          have hthird : Hid (∀ p1 p2 p3 p4, accT a sh lb = .tuple #[.bool p1, .int .i64 p2] → accT b sh lb = .tuple #[.bool p3, .int .i64 p4] → p2 ≠ 0 ∨ p2 = 0 ∧ x = false ∨ p2 = 0 ∧ x = true ∧ p1 = false ∨ p2 = 0 ∧ x = true ∧ p1 = true ∧ p3 = true) := by
            intro p1 p2 p3 p4 g1 g2
            by_cases h0 : p2 = 0
            · subst h0
              cases hvt : validT a.letters sh lb with
              | false =>
                have := g1.symm.trans (show accT a sh lb = .tuple #[.bool false, .int .i64 1] by simp [accT, hvt])
                exact absurd (tup_eq this).2 (by decide)
              | true =>
                have hT : (treeOf sh lb).ok a.letters.toNat := (validT_tree hvt).2.1
                have q1 := tup_eq (g1.symm.trans (show accT a sh lb = .tuple #[.bool (a.lang (treeOf sh lb)), .int .i64 0] by simp [accT, hvt, hVA.out]))
                have q2 := tup_eq (g2.symm.trans (show accT b sh lb = .tuple #[.bool (b.lang (treeOf sh lb)), .int .i64 0] by simp [accT, hvt, hVB.out, hLAB.out]))
                rw [q1.1, q2.1]
                cases hx : x with
                | false => exact .inr (.inl ⟨rfl, rfl⟩)
                | true =>
                  cases hla : a.lang (treeOf sh lb) with
                  | false => exact .inr (.inr (.inl ⟨rfl, rfl, rfl⟩))
                  | true => exact .inr (.inr (.inr ⟨rfl, rfl, rfl, hXX.out.1 hx _ hT hla⟩))
            · exact .inl h0
          obtain ⟨p1, p2, hp⟩ := accT_shape a sh lb
          have hHP := hide hp
          rw [hp]
          clear hX14 hb14 hp hca13 hct13
          go_wp2_with fail
          refine Calls.ret (accepts_any hH14.out.tb hH14.out.ss hH14.out.sl (Nat.le_refl _) (Nat.le_refl _)) ?_
          rintro v w15 ⟨rfl, hb15⟩
          have hX15 := hH14.out.step hb15
          have hTM15 := hide (hTM14.out.keep (fun _ hp => hb15.cell hp) hb15.size)
          have hTN15 := hide (hTN14.out.keep (fun _ hp => hb15.cell hp) hb15.size)
          have hcm15 := (hBM14.out.below hb15).cell
          have hcn15 := (hBN14.out.below hb15).cell
          have hH15 := hide hX15
          obtain ⟨p3, p4, hp⟩ := accT_shape b sh lb
          have hcases := hthird.out _ _ _ _ hHP.out hp
          rw [hp]
          clear hX15 hb15 hp hcb14 hct14
          rcases hcases with h0 | ⟨rfl, rfl⟩ | ⟨rfl, rfl, rfl⟩ | ⟨rfl, rfl, rfl, rfl⟩
          · have hne0 : (p2 == 0) = false := by simpa using h0
            cases x <;> cases y
            all_goals
              go_wp2_with fail
              refine Calls.ret (sameAutomaton_any hTM15.out hTN15.out) ?_
              rintro v w16 ⟨rfl, hb16⟩
              have hH16 := hide (hH15.out.step hb16)
              rw [hdec.out]
              clear hb16
              go_wp2_with fail
              refine Calls.ret (known_any w16) ?_
              rintro v w17 ⟨rfl, hb17⟩
              have hfin := hide (hH16.out.step hb17).below
              clear hb17
              go_wp2_with fail
              go_ret
              exact ⟨rfl, hfin.out⟩
          all_goals
            cases y
            all_goals
              go_wp2_with fail
              refine Calls.ret (sameAutomaton_any hTM15.out hTN15.out) ?_
              rintro v w16 ⟨rfl, hb16⟩
              have hH16 := hide (hH15.out.step hb16)
              rw [hdec.out]
              clear hb16
              go_wp2_with fail
              refine Calls.ret (known_any w16) ?_
              rintro v w17 ⟨rfl, hb17⟩
              have hfin := hide (hH16.out.step hb17).below
              clear hb17
              go_wp2_with fail
              go_ret
              exact ⟨rfl, hfin.out⟩
end Go.Proofs.Ytnimlcbgeiajiaa

namespace Go.Proofs.Ytnimlcbgeiajiaa
open Go.RowKit

set_option maxHeartbeats 4000000 in
set_option maxRecDepth 100000 in
theorem lawValidates (v : Value) (a : TA) (w : World) (h : IsTA w w.heap.size v a) :
    Calls Try.prog 3 #[v] w (Ret fun v w' => v = .bool true ∧ Below w.heap.size w w') := by
  obtain ⟨A1, c1, A2, c2, A3, c3, rfl, h1, h2, h3⟩ := h
  obtain ⟨w1, hw1, hb1, hB1, hk1⟩ := box_blk w #[.int .i64 a.letters, .int .i64 a.states, .slice A1 a.accept.length c1, .slice A2 a.leaves.length c2, .slice A3 a.branches.length c3] 26
  have hsz1 := hb1.size
  have hcb := hB1.cell
  have hT : IsTA w1 w1.heap.size (.agg #[.int .i64 a.letters, .int .i64 a.states, .slice A1 a.accept.length c1, .slice A2 a.leaves.length c2, .slice A3 a.branches.length c3]) a :=
    IsTA.keep ⟨A1, c1, A2, c2, A3, c3, rfl, h1, h2, h3⟩ (fun _ hp => hb1.cell hp) hsz1
  have hTT := hide hT
  clear hT h1 h2 h3
  go_enter Try.func3, Try.ntmps3
  go_wp2_with fail
  refine (Big_any _ a w1 hTT.out).mono ?_
  rintro e w2 ⟨rfl, hb2⟩
  have hb02 : Below w.heap.size w w2 := hb1.trans (hb2.mono hsz1)
  have hB2 := hB1.below hb2
  have hcb2 := hB2.cell
  have hsz2 := hb2.size
  cases hbig : a.big with
  | true =>
    go_wp2_with fail
    refine Calls.ret (known_any w2) ?_
    rintro v w3 ⟨rfl, hb3⟩
    have hb03 := hide (hb02.trans (hb3.mono (by omega)))
    clear hb3
    go_wp2_with fail
    go_ret
    exact ⟨rfl, hb03.out⟩
  | false =>
    have hT2 := hide (hTT.out.keep (fun _ hp => hb2.cell hp) hsz2)
    go_wp2_with fail
    refine Reg.region_cut [0, 1, 0, 7, 15, 31, 63, 127, 255] [0, 2, 1, 3, 4, 5, 6, 7, 8] (by kernel_rfl) (by repeat (first | exact Reg.NoQ.body (fun _ _ h => h) (fun _ h => h) | refine Reg.NoQ.then ?_ | refine Reg.NoQ.inBlock ?_)) ?_
    refine Reg.rest_walk' [0, 2] [1, 3, 4, 5, 6, 7, 8] rfl (by kernel_rfl) ?_
    intro Qf hQf
    go_wp2_with fail
    rw [List.filterMap_nil]
    go_wp2_with fail
    refine Reg.rest_act' 1 [3, 4, 5, 6, 7, 8] [2] rfl (by kernel_rfl) ?_
    intro Qf hQf
    simp only [List.getElem_toArray, List.getElem_cons_succ, List.getElem_cons_zero]
    have hT3 := hide (hT2.out.below (drew_below w2))
    go_wp2_with (go_at_call 18; refine (validate_any _ a w2.drew hT3.out).mono ?_; rintro e w3 ⟨rfl, hb3⟩)
    refine ⟨Reg.same_below hb3 [2] rfl, ?_⟩
    have hb23 : Below w2.heap.size w2 w3 := (drew_below w2).trans hb3
    have hT4 := hide ((hTT.out.keep (fun _ hp => hb2.cell hp) hsz2).keep (fun _ hp => hb23.cell hp) hb23.size)
    have hb03 := hb02.trans (hb23.mono (by omega))
    have hsz3 := hb23.size
    refine Reg.rest_act' 3 [4, 5, 6, 7, 8] [] rfl (by kernel_rfl) ?_
    intro Qf hQf
    simp only [List.getElem_toArray, List.getElem_cons_succ, List.getElem_cons_zero]
    go_wp2_with (go_at_call 19; refine (refValidate_any _ a w3 hT4.out).mono ?_; rintro e w4 ⟨rfl, hb4⟩)
    refine ⟨fun r hr => absurd hr (List.not_mem_nil), ?_⟩
    have hb04 := hb03.trans (hb4.mono (by omega))
    have hsz4 := hb4.size
    generalize errno a.valid = er at *
    have heq : (er == er) = true := by simp
    refine Reg.rest_walk' [4, 5] [6, 7, 8] rfl (by kernel_rfl) ?_
    intro Qf hQf
    go_wp2_with fail
    rw [List.filterMap_nil]
    go_wp2_with fail
    refine Reg.rest_act' 6 [7, 8] [] rfl (by kernel_rfl) ?_
    intro Qf hQf
    simp only [List.getElem_toArray, List.getElem_cons_succ, List.getElem_cons_zero]
    go_wp2_with (go_at_call 17; refine Calls.ret (known_any w4) ?_; rintro v w5 ⟨rfl, hb5⟩)
    refine ⟨fun r hr => absurd hr (List.not_mem_nil), ?_⟩
    have hb05 := hide (hb04.trans (hb5.mono (by omega)))
    refine Reg.rest_walk' [7, 8] [] rfl (by kernel_rfl) ?_
    intro Qf hQf
    go_wp2_with fail
    rw [List.filterMap_nil]
    go_wp2_with fail
    refine Reg.rest_end ?_
    go_wp2_with fail
    go_ret
    exact ⟨rfl, hb05.out⟩
end Go.Proofs.Ytnimlcbgeiajiaa

namespace Go.Proofs.Ytnimlcbgeiajiaa
open Go.RowKit Go.ChangeShapes Go.WideShapes Go.Deep

section
variable {H : Type} {enc : TypeId × Value → H} {P : Program} {w : World} {base : Nat} {spare : Nat → Bool} {held : Bool}
theorem cell_lt {w : World} {a : Addr} {v : Value} (h : w.cell? a = some v) : a.block < w.heap.size := by
  unfold World.cell? at h
  split at h
  · rename_i hh
    exact (Array.getElem?_eq_some_iff.1 hh).1
  · cases h
theorem add_plain_ (b off i : Nat) : (⟨b, off, none⟩ : Addr).add i = ⟨b, off + i, none⟩ := by
  unfold Addr.add
  split <;> simp_all
/-- A list whose elements are chosen one by one. -/
theorem choose_list {D : Type} {p : Nat → D → Prop} : ∀ n : Nat, (∀ i, i < n → ∃ d, p i d) → ∃ l : List D, l.length = n ∧ ∀ (i : Nat) (d : D), l[i]? = some d → p i d
  | 0, _ => ⟨[], rfl, fun i d h => by simp at h⟩
  | n + 1, h => by
    obtain ⟨l, hl, hp⟩ := choose_list n fun i hi => h i (by omega)
    obtain ⟨d, hd⟩ := h n (by omega)
    refine ⟨l ++ [d], by simp [hl], fun i x hx => ?_⟩
    by_cases hi : i < l.length
    · rw [List.getElem?_append_left hi] at hx
      exact hp i x hx
    · have h1 := lt_of_get hx
      simp at h1
      obtain rfl : i = l.length := by omega
      simp at hx
      subst hx
      rw [hl]
      exact hd
/-- A slice whose elements are known cell by cell. -/
theorem sl_of {D : Type} {sz : Nat} {enc : D → Nat → Value} {a : Addr} {len : Nat} (hs : 0 < sz) (hlen : len ≤ 9223372036854775807) (h : ∀ i, i < len → ∃ d : D, ∀ j, j < sz → w.cell? (a.add (i * sz + j)) = some (enc d j)) :
    ∃ ds : List D, ds.length = len ∧ Sl w w.heap.size sz enc (some a) ds := by
  obtain ⟨ds, hl, hd⟩ := choose_list len h
  refine ⟨ds, hl, by omega, fun hne => ?_⟩
  obtain ⟨b, off, spot⟩ := a
  obtain ⟨d0, hd0⟩ := get_lt (l := ds) (i := 0) (by cases ds; exact absurd rfl hne; simp)
  have h0 := hd 0 d0 hd0 0 hs
  have hspot : spot = none := by simpa [Addr.add] using World.cell?_spot h0
  subst hspot
  have hb := cell_lt h0
  rw [add_plain_] at hb
  refine ⟨b, off, rfl, hb, fun k d hk j hj => ?_⟩
  have := hd k d hk j hj
  rw [add_plain_] at this
  rw [Nat.add_assoc]
  exact this
end

section
variable {H : Type} {enc : TypeId × Value → H} {w : World} {base : Nat} {spare : Nat → Bool} {held : Bool}
theorem intAt {cs : List Value} {n i : Nat} {x : Option (DataW H × List MemPlace)} (h : DataW.trod enc Try.prog w base spare held n 3 ((cs.drop i).take 1) = x) (hx : x.isSome = true) : ∃ z : Int, cs[i]? = some (.int .i64 z) := by
  obtain ⟨y, rfl⟩ := Option.isSome_iff_exists.1 hx
  obtain ⟨z, hz, _⟩ := DataW.trod_int Try.underlying3 h
  refine ⟨z, ?_⟩
  have h1 : ((cs.drop i).take 1)[0]? = some (.int .i64 z) := by rw [hz]; rfl
  rw [List.getElem?_take] at h1
  simpa using h1
theorem ints_in {fuel : Nat} {v : Value} {x : DataW H × List MemPlace} (h : DataW.trod enc Try.prog w base spare held fuel 22 [v] = some x) : ∃ A c, ∃ xs : List Int, v = .slice A xs.length c ∧ Sl w w.heap.size 1 encI A xs := by
  rcases open_ints Try.underlying22 Try.underlying3 (by kernel_rfl) h with ⟨h1, -⟩ | ⟨a, len, cap, zs, h1, -, hlc, hcm, hzl, -, hc, -⟩
  · injection h1 with h1 _
    subst h1
    exact ⟨none, 0, [], rfl, Sl.nil rfl⟩
  · injection h1 with h1 _
    subst h1
    have hle : len ≤ zs.length := by rw [hzl]; split <;> omega
    obtain ⟨ds, hl, hs⟩ := sl_of (w := w) (enc := encI) (a := a) (len := len) (sz := 1) (by omega) (by unfold maxLen at hcm; omega) (fun i hi => ⟨zs.getD i 0, fun j hj => by
      have : j = 0 := by omega
      subst this
      rw [Nat.mul_one, Nat.add_zero]
      exact hc i (by omega)⟩)
    exact ⟨some a, cap, ds, by rw [hl], hs⟩
theorem leaves_in {fuel : Nat} {v : Value} {x : DataW H × List MemPlace} (h : DataW.trod enc Try.prog w base spare held fuel 23 [v] = some x) : ∃ A c, ∃ xs : List Leaf, v = .slice A xs.length c ∧ Sl w w.heap.size 2 encL A xs := by
  rcases open_slice Try.underlying23 h with ⟨h1, -⟩ | ⟨a, len, cap, m, n, D, Pl, h1, -, hlc, hcm, hm, -, hc⟩
  · injection h1 with h1 _
    subst h1
    exact ⟨none, 0, [], rfl, Sl.nil rfl⟩
  · injection h1 with h1 _
    subst h1
    have hC : Try.prog.cellsOf 36 = 2 := by kernel_rfl
    rw [hC] at hc
    have hle : len ≤ m := by rw [hm]; split <;> omega
    obtain ⟨ds, hl, hs⟩ := sl_of (w := w) (enc := encL) (a := a) (len := len) (sz := 2) (by omega) (by unfold maxLen at hcm; omega) (fun i hi => by
      obtain ⟨cs, hcs, ht⟩ := hc i (by omega)
      obtain ⟨_, hlen, hcell⟩ := World.cells?_some hcs
      obtain ⟨xs, n', _, _, _, hxl, hf⟩ := DataW.trod_struct Try.underlying36 ht
      have hxs : ∀ k, k < 2 → (xs[k]?).isSome = true := fun k hk => by
        have : xs.length = 2 := hxl
        rw [List.getElem?_eq_getElem (by omega)]
        rfl
      have h3 : Try.prog.cellsOf 3 = 1 := by kernel_rfl
      have f0 : DataW.trod enc Try.prog w base spare held n' 3 ((cs.drop 0).take (Try.prog.cellsOf 3)) = xs[0]? := hf 0 _ rfl
      have f1 : DataW.trod enc Try.prog w base spare held n' 3 ((cs.drop 1).take (Try.prog.cellsOf 3)) = xs[1]? := hf 1 _ rfl
      rw [h3] at f0 f1
      obtain ⟨z0, e0⟩ := intAt f0 (hxs 0 (by omega))
      obtain ⟨z1, e1⟩ := intAt f1 (hxs 1 (by omega))
      refine ⟨⟨z0, z1⟩, fun j hj => ?_⟩
      have g := hcell j hj
      have hadd : (a.add (i * 2)).add j = a.add (i * 2 + j) := Go.Deep.add_add ..
      rw [hadd] at g
      rw [g]
      match j, hj with
      | 0, _ => exact e0
      | 1, _ => exact e1)
    exact ⟨some a, cap, ds, by rw [hl], hs⟩
theorem branches_in {fuel : Nat} {v : Value} {x : DataW H × List MemPlace} (h : DataW.trod enc Try.prog w base spare held fuel 24 [v] = some x) : ∃ A c, ∃ xs : List Branch, v = .slice A xs.length c ∧ Sl w w.heap.size 4 encBr A xs := by
  rcases open_slice Try.underlying24 h with ⟨h1, -⟩ | ⟨a, len, cap, m, n, D, Pl, h1, -, hlc, hcm, hm, -, hc⟩
  · injection h1 with h1 _
    subst h1
    exact ⟨none, 0, [], rfl, Sl.nil rfl⟩
  · injection h1 with h1 _
    subst h1
    have hC : Try.prog.cellsOf 59 = 4 := by kernel_rfl
    rw [hC] at hc
    have hle : len ≤ m := by rw [hm]; split <;> omega
    obtain ⟨ds, hl, hs⟩ := sl_of (w := w) (enc := encBr) (a := a) (len := len) (sz := 4) (by omega) (by unfold maxLen at hcm; omega) (fun i hi => by
      obtain ⟨cs, hcs, ht⟩ := hc i (by omega)
      obtain ⟨_, hlen, hcell⟩ := World.cells?_some hcs
      obtain ⟨xs, n', _, _, _, hxl, hf⟩ := DataW.trod_struct Try.underlying59 ht
      have hxs : ∀ k, k < 4 → (xs[k]?).isSome = true := fun k hk => by
        have : xs.length = 4 := hxl
        rw [List.getElem?_eq_getElem (by omega)]
        rfl
      have h3 : Try.prog.cellsOf 3 = 1 := by kernel_rfl
      have f0 : DataW.trod enc Try.prog w base spare held n' 3 ((cs.drop 0).take (Try.prog.cellsOf 3)) = xs[0]? := hf 0 _ rfl
      have f1 : DataW.trod enc Try.prog w base spare held n' 3 ((cs.drop 1).take (Try.prog.cellsOf 3)) = xs[1]? := hf 1 _ rfl
      have f2 : DataW.trod enc Try.prog w base spare held n' 3 ((cs.drop 2).take (Try.prog.cellsOf 3)) = xs[2]? := hf 2 _ rfl
      have f3 : DataW.trod enc Try.prog w base spare held n' 3 ((cs.drop 3).take (Try.prog.cellsOf 3)) = xs[3]? := hf 3 _ rfl
      rw [h3] at f0 f1 f2 f3
      obtain ⟨z0, e0⟩ := intAt f0 (hxs 0 (by omega))
      obtain ⟨z1, e1⟩ := intAt f1 (hxs 1 (by omega))
      obtain ⟨z2, e2⟩ := intAt f2 (hxs 2 (by omega))
      obtain ⟨z3, e3⟩ := intAt f3 (hxs 3 (by omega))
      refine ⟨⟨z0, z1, z2, z3⟩, fun j hj => ?_⟩
      have g := hcell j hj
      have hadd : (a.add (i * 4)).add j = a.add (i * 4 + j) := Go.Deep.add_add ..
      rw [hadd] at g
      rw [g]
      match j, hj with
      | 0, _ => exact e0
      | 1, _ => exact e1
      | 2, _ => exact e2
      | 3, _ => exact e3)
    exact ⟨some a, cap, ds, by rw [hl], hs⟩
set_option maxRecDepth 100000 in
/-- An automaton that comes in. -/
theorem ta_in {r : Go.Reach} {b0 : Nat} {v : Value} {d : DataW H} {p : List MemPlace} (hv : Value.okWide Try.prog w r b0 26 v) (h : DataW.Trod enc Try.prog w base spare held 26 v d p) : ∃ a : TA, IsTA w w.heap.size v a := by
  obtain ⟨cs, rfl, hsz⟩ := okWide_struct Try.underlying26 hv
  obtain ⟨l⟩ := cs
  have hC : Try.prog.cellsOf 26 = 5 := by kernel_rfl
  match l, hsz.trans hC with
  | [c0, c1, c2, c3, c4], _ =>
    obtain ⟨fuel, hf⟩ := h
    obtain ⟨xs, n, _, _, _, hxl, hg⟩ := DataW.trod_struct Try.underlying26 hf
    have hxs : ∀ k, k < 5 → ∃ y, xs[k]? = some y := fun k hk => get_lt (by have : xs.length = 5 := hxl; omega)
    have h3 : Try.prog.cellsOf 3 = 1 := by kernel_rfl
    have h22 : Try.prog.cellsOf 22 = 1 := by kernel_rfl
    have h23 : Try.prog.cellsOf 23 = 1 := by kernel_rfl
    have h24 : Try.prog.cellsOf 24 = 1 := by kernel_rfl
    have g0 : DataW.trod enc Try.prog w base spare held n 3 (([c0, c1, c2, c3, c4].drop 0).take (Try.prog.cellsOf 3)) = xs[0]? := hg 0 _ rfl
    have g1 : DataW.trod enc Try.prog w base spare held n 3 (([c0, c1, c2, c3, c4].drop 1).take (Try.prog.cellsOf 3)) = xs[1]? := hg 1 _ rfl
    have g2 : DataW.trod enc Try.prog w base spare held n 22 (([c0, c1, c2, c3, c4].drop 2).take (Try.prog.cellsOf 22)) = xs[2]? := hg 2 _ rfl
    have g3 : DataW.trod enc Try.prog w base spare held n 23 (([c0, c1, c2, c3, c4].drop 3).take (Try.prog.cellsOf 23)) = xs[3]? := hg 3 _ rfl
    have g4 : DataW.trod enc Try.prog w base spare held n 24 (([c0, c1, c2, c3, c4].drop 4).take (Try.prog.cellsOf 24)) = xs[4]? := hg 4 _ rfl
    rw [h3] at g0 g1
    rw [h22] at g2
    rw [h23] at g3
    rw [h24] at g4
    obtain ⟨y2, e2⟩ := hxs 2 (by omega)
    obtain ⟨y3, e3⟩ := hxs 3 (by omega)
    obtain ⟨y4, e4⟩ := hxs 4 (by omega)
    obtain ⟨z0, q0⟩ := intAt g0 (by obtain ⟨y, e⟩ := hxs 0 (by omega); rw [e]; rfl)
    obtain ⟨z1, q1⟩ := intAt g1 (by obtain ⟨y, e⟩ := hxs 1 (by omega); rw [e]; rfl)
    rw [e2] at g2
    rw [e3] at g3
    rw [e4] at g4
    have q0' : c0 = .int .i64 z0 := by simpa using q0
    have q1' : c1 = .int .i64 z1 := by simpa using q1
    obtain ⟨A2, d2, xs2, rfl, s2⟩ := ints_in (v := c2) g2
    obtain ⟨A3, d3, xs3, rfl, s3⟩ := leaves_in (v := c3) g3
    obtain ⟨A4, d4, xs4, rfl, s4⟩ := branches_in (v := c4) g4
    subst q0' q1'
    exact ⟨⟨z0, z1, xs2, xs3, xs4⟩, A2, d2, A3, d3, A4, d4, rfl, s2, s3, s4⟩
end
end Go.Proofs.Ytnimlcbgeiajiaa

namespace Go.Proofs.Ytnimlcbgeiajiaa
open Go.RowKit Go.ChangeShapes Go.WideShapes Go.ChangeAt

theorem knob : ownKnob Try.prog.godebug = none := by kernel_rfl
theorem laid_out : laidOutB Try.prog = true := by kernel_rfl

section
variable {H : Type} {enc : TypeId × Value → H} {P : Program}
/-- What a law leaves behind that made memory alone: its arguments read as they did. -/
theorem law_post {f : Func} {s : ChangeSpec} {apart fresh handsOn again : Bool} {W W' : World} {args : Array Value} {v : Value} {ds : List (DataW H)} {before : List MemPlace} (hvars : s.vars = [])
    (hW : DataW.Whole enc P f.params.toList s.vars apart W args.toList ds [] before)
    (hres : ∀ (b : Nat) (sp : Nat → Bool) (hd : Bool), DataW.TrodAll enc P W' b sp hd f.resultTypes.toList (v.resultList f.resultTypes.size) (s.fn H (ds ++ [])).results [])
    (hargs : ∀ sp : Nat → Bool, (∀ p ∈ before, sp p.block = true) → DataW.TrodAll enc P W' 0 sp true f.params.toList args.toList (s.fn H (ds ++ [])).args before) (hsv : (s.fn H (ds ++ [])).vars = [])
    (hb : Below W.heap.size W W')
    (hok : ∀ (j : Nat) (t : TypeId) (r : Value), f.resultTypes[j]? = some t → (v.resultList f.resultTypes.size)[j]? = some r → Value.okWide P W' .any 0 t r) :
    s.post enc P f apart fresh handsOn again W args v W' := by
  have hlt : ∀ p ∈ before, p.block < W.heap.size := fun p hp => hW.lt p hp
  have hold : ∀ p ∈ before, (fun b => decide (b < W.heap.size)) p.block = true := fun p hp => by simpa using hlt p hp
  have hvs : ∀ sp : Nat → Bool, DataW.TrodVars enc P W' sp s.vars (s.fn H (ds ++ [])).vars [] := fun sp => by rw [hvars, hsv]; rfl
  refine ⟨ds, [], before, [], before, [], hW, hres _ _ _, hargs _ hold, hvs _, World.keptBut_mono (fun p hp => ⟨hp, ?_⟩) (hb.frame (· ∈ before)), fun _ => ?_⟩
  · exact Or.inr (Or.inl hp)
  · obtain ⟨_, _, _, _, _, hz, hn⟩ := hW
    refine ⟨hok, _, _, ([] ++ before) ++ [], ⟨[] ++ before, [], trodAll_append (hargs _ (fun _ _ => rfl)) (hres _ _ _), hvs _, rfl, ?_, ?_⟩, ?_⟩
    · intro b off hp
      have hin : MemPlace.cell b off ∈ before := by simpa using hp
      rw [hb.frozen (hlt _ hin)]
      exact hz b off hin
    · intro ha
      simpa using hn ha
    · intro p hp _
      simpa using hp
end

set_option maxRecDepth 100000 in
theorem tv_lifted (os : Os) (started : os.Started) (H : Type) (enc : TypeId × Value → H) :
    ReturnsInHanded {} Try.checked os 3 .any (Rows.treeValidatesSpec.pre6 enc Try.prog Try.f3 Rows.treeValidatesRow.domain false) (Rows.treeValidatesSpec.post enc Try.prog Try.f3 false true false false) := by
  refine returnsInHanded_of_change (C := Try.checked) knob started (by kernel_rfl) Try.func3
    (ChangeSpec.witness6 (enc := enc) (C := Try.checked) false ⟨#[], #[.agg #[.int .i64 0, .int .i64 0, .slice none 0 0, .slice none 0 0, .slice none 0 0]], []⟩ 8 (by kernel_rfl) (by kernel_rfl) (by kernel_rfl) (by kernel_rfl)) ?_
  intro W base args ds gs before hval0 hW hcnd _
  have hval : ∀ (j : Nat) t v, Try.f3.params[j]? = some t → args[j]? = some v → Value.okWide Try.prog W .any base t v := hval0
  have hW' := hW
  obtain ⟨p, q, hA0, hV, rfl, hfz, hnd⟩ := hW
  have hA : DataW.TrodAll enc Try.prog W 0 (fun _ => true) true Try.f3.params.toList args.toList ds p := hA0
  rw [Try.params3] at hA hval
  obtain ⟨v0, d0, rfl, rfl, h0⟩ := trodAll_one hA
  obtain ⟨rfl, rfl⟩ := trodVars_none hV
  obtain ⟨a, ha⟩ := ta_in (hval 0 26 v0 rfl rfl) h0
  simp only [List.append_nil] at hW'
  have hlt := hW'.lt
  refine Calls.ret (lawValidates v0 a W ha) fun v W' ⟨hv, hb⟩ => ?_
  subst hv
  exact ⟨_, rfl, law_post rfl hW' (fun _ _ _ => trodAll_mk1 (shut_bool Try.underlying4 _)) (fun sp hsp => by
    rw [Try.params3]
    exact trodAll_mk1 (WideElems.Trod_stays laid_out (by kernel_rfl) (of_decide_eq_true (by kernel_rfl)) h0 (fun x hx => hb.same (hlt x hx)) hsp)) rfl hb (ok_one (by kernel_rfl) rfl (okWide_bool_mk Try.underlying4 _))⟩

theorem treeValidates_holds : Rows.TreeValidatesSaid :=
  OpenClaim.holds_of_wide 3 Try.f3 rfl rfl rfl rfl rfl rfl rfl ⟨rfl, rfl, rfl, rfl, rfl⟩ rfl rfl rfl rfl rfl (by kernel_rfl) Try.func3 (by kernel_rfl)
    (of_decide_eq_true (by kernel_rfl)) (by unfold Func.isWrapper; first | (rw [if_pos (by decide +kernel)]; kernel_rfl) | (rw [if_neg (by decide +kernel)]; exact ⟨rfl, rfl⟩))
    (fun os started H enc _ => tv_lifted os started H enc)
#print axioms treeValidates_holds
end Go.Proofs.Ytnimlcbgeiajiaa

namespace Go.Proofs.Ytnimlcbgeiajiaa
open Go.RowKit Go.ChangeShapes Go.WideShapes Go.ChangeAt

section
variable {H : Type} {enc : TypeId × Value → H} {w : World} {base : Nat} {spare : Nat → Bool} {held : Bool}
set_option maxRecDepth 100000 in
/-- A shape with labels that comes in. -/
theorem tree_in {r : Go.Reach} {b0 : Nat} {v : Value} {d : DataW H} {p : List MemPlace} (hv : Value.okWide Try.prog w r b0 40 v) (h : DataW.Trod enc Try.prog w base spare held 40 v d p) :
    ∃ A1 c1 A2 c2, ∃ sh lb : List Int, v = .agg #[.slice A1 sh.length c1, .slice A2 lb.length c2] ∧ Sl w w.heap.size 1 encI A1 sh ∧ Sl w w.heap.size 1 encI A2 lb := by
  obtain ⟨cs, rfl, hsz⟩ := okWide_struct Try.underlying40 hv
  obtain ⟨l⟩ := cs
  have hC : Try.prog.cellsOf 40 = 2 := by kernel_rfl
  match l, hsz.trans hC with
  | [c0, c1], _ =>
    obtain ⟨fuel, hf⟩ := h
    obtain ⟨xs, n, _, _, _, hxl, hg⟩ := DataW.trod_struct Try.underlying40 hf
    have hxs : ∀ k, k < 2 → ∃ y, xs[k]? = some y := fun k hk => get_lt (by have : xs.length = 2 := hxl; omega)
    have h22 : Try.prog.cellsOf 22 = 1 := by kernel_rfl
    have g0 : DataW.trod enc Try.prog w base spare held n 22 (([c0, c1].drop 0).take (Try.prog.cellsOf 22)) = xs[0]? := hg 0 _ rfl
    have g1 : DataW.trod enc Try.prog w base spare held n 22 (([c0, c1].drop 1).take (Try.prog.cellsOf 22)) = xs[1]? := hg 1 _ rfl
    rw [h22] at g0 g1
    obtain ⟨y0, e0⟩ := hxs 0 (by omega)
    obtain ⟨y1, e1⟩ := hxs 1 (by omega)
    rw [e0] at g0
    rw [e1] at g1
    obtain ⟨A0, d0, xs0, rfl, s0⟩ := ints_in (v := c0) g0
    obtain ⟨A1, d1, xs1, rfl, s1⟩ := ints_in (v := c1) g1
    exact ⟨A0, d0, A1, d1, xs0, xs1, rfl, s0, s1⟩
end

end Go.Proofs.Ytnimlcbgeiajiaa
