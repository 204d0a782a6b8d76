/-
  tree.joined: the walk.
  tree.Union, tree.Intersect: the walks.
  The reference's joined: what it returns, by relation; the loop that asks whether all are valid.
  The reference's joined: the canonical machines of all, in a list.
  The reference's joined: the machines joined one by one.
  The reference's joined: the walk; Union and Intersect of the reference.
-/
import Derived.Test.YtnimlcbgeiajiaaSV
import Derived.Test.YtnimlcbgeiajiaaQE
import Derived.Test.YtnimlcbgeiajiaaQJ
import Derived.Test.YtnimlcbgeiajiaaQW
import Derived.Test.YtnimlcbgeiajiaaSR

namespace Go.Proofs.Ytnimlcbgeiajiaa
open Go.RowKit

/-- The canonical machine of the automaton has so many states. -/
def CanN (a : TA) (n : Nat) : Prop := ∃ leaf br acc, Canon a.letters.toNat n leaf br acc a.lang
theorem CanN.eq {a : TA} {n n' : Nat} (h : CanN a n) (h' : CanN a n') : n = n' := by
  obtain ⟨_, _, _, h⟩ := h
  obtain ⟨_, _, _, h'⟩ := h'
  exact (h.unique h' fun _ _ => rfl).1
/-- The product of the numbers of states, cut at 65. -/
def szN (ns : List Nat) : Nat := ns.foldl (fun s n => min (s * n) 65) 1
def SzR (l : List TA) (s : Nat) : Prop := ∃ ns : List Nat, ns.length = l.length ∧ (∀ (i : Nat) (a : TA) (n : Nat), l[i]? = some a → ns[i]? = some n → CanN a n) ∧ s = szN ns
theorem SzR.eq {l : List TA} {s s' : Nat} (h : SzR l s) (h' : SzR l s') : s = s' := by
  obtain ⟨ns, h1, h2, rfl⟩ := h
  obtain ⟨ns', h1', h2', rfl⟩ := h'
  have : ns = ns' := by
    refine List.ext_getElem? fun i => ?_
    by_cases hi : i < l.length
    · obtain ⟨a, ha⟩ := get_lt hi
      obtain ⟨n, hn⟩ := get_lt (l := ns) (i := i) (by omega)
      obtain ⟨n', hn'⟩ := get_lt (l := ns') (i := i) (by omega)
      rw [hn, hn', (h2 i a n ha hn).eq (h2' i a n' ha hn')]
    · rw [List.getElem?_eq_none (by omega), List.getElem?_eq_none (by omega)]
  rw [this]
theorem SzR.nil : SzR [] 1 := ⟨[], rfl, fun i a n h => by simp at h, rfl⟩
theorem SzR.snoc {l : List TA} {s : Nat} (h : SzR l s) {a : TA} {n : Nat} (hn : CanN a n) : SzR (l ++ [a]) (min (s * n) 65) := by
  obtain ⟨ns, h1, h2, rfl⟩ := h
  refine ⟨ns ++ [n], by simp [h1], fun i b m hb hm => ?_, by simp [szN]⟩
  by_cases hi : i < l.length
  · rw [List.getElem?_append_left hi] at hb
    rw [List.getElem?_append_left (by omega)] at hm
    exact h2 i b m hb hm
  · have hi2 := lt_of_get hb
    simp at hi2
    obtain rfl : i = l.length := by omega
    rw [← h1] at hm
    simp at hb hm
    subst hb hm
    exact hn
/-- The language of all, joined from the left. -/
def langJ (j : Bool → Bool → Bool) : List TA → Tr → Bool
  | [], _ => false
  | a :: l, t => l.foldl (fun x b => j x (b.lang t)) (a.lang t)
theorem langJ_one (j : Bool → Bool → Bool) (a : TA) : langJ j [a] = a.lang := rfl
theorem langJ_snoc (j : Bool → Bool → Bool) {l : List TA} (h : l ≠ []) (a : TA) (t : Tr) : langJ j (l ++ [a]) t = j (langJ j l t) (a.lang t) := by
  cases l with
  | nil => exact absurd rfl h
  | cons b l => simp [langJ]

/-- What joined returns. -/
def JoinR (w' : World) (base : Nat) (j : Bool → Bool → Bool) (l : List TA) (r : Value) : Prop :=
  ((l = [] ∨ chkL l = false) ∧ r = .tuple #[zeroTA, .int .i64 1]) ∨
  (l ≠ [] ∧ chkL l = true ∧ ((∃ a ∈ l, a.Large) ∨ (∀ a ∈ l, ¬ a.Large) ∧ ∃ s, SzR l s ∧ 64 < s) ∧ r = .tuple #[zeroTA, .int .i64 4]) ∨
  (l ≠ [] ∧ chkL l = true ∧ (∀ a ∈ l, ¬ a.Large) ∧ ∃ s v L ac lf t, SzR l s ∧ s ≤ 64 ∧ r = .tuple #[v, .int .i64 0] ∧ (∀ a ∈ l, a.letters.toNat = L) ∧ OwnTA w' base v L ac.length (accIdx ac) (plLv lf) (plBr L ac.length t) ∧
    MOK L ac lf t ∧ ac.length ≤ 64 ∧ Canon L ac.length (mleaf lf) (mbr t) (macc ac) (langJ j l))

/-- What has been joined so far. -/
structure JoinS (wr : World) (base : Nat) (L : Nat) (j : Bool → Bool → Bool) (l : List TA) (out : Value) (s : Nat) : Prop where
  sz : SzR l s
  pos : 1 ≤ s
  le : s ≤ 65
  none_ : l = [] → out = .pointer none ∧ s = 1
  some_ : l ≠ [] → ∃ gM ac lf t, out = .pointer (some ⟨gM, 0, none⟩) ∧ Mach wr base gM L ac lf t ∧ MOK L ac lf t ∧ ac.length ≤ 64 ∧ (s ≤ 64 → ac.length ≤ s ∧ Canon L ac.length (mleaf lf) (mbr t) (macc ac) (langJ j l))
theorem JoinS.keep0 {w w' : World} {base L : Nat} {j : Bool → Bool → Bool} {l : List TA} {out : Value} {s : Nat} (h : JoinS w base L j l out s) (hk : Kept w w' (fun _ => False)) : JoinS w' base L j l out s :=
  ⟨h.sz, h.pos, h.le, h.none_, fun hn => by
    obtain ⟨gM, ac, lf, t, h1, h2, h3⟩ := h.some_ hn
    exact ⟨gM, ac, lf, t, h1, h2.keep0 hk, h3⟩⟩
theorem chkL_at {l : List TA} (h : chkL l = true) {a : TA} (ha : a ∈ l) : a.valid = true ∧ a.letters = (l.headD ⟨0, 0, [], [], []⟩).letters := by
  unfold chkL at h
  simp only [Bool.and_eq_true, List.all_eq_true, decide_eq_true_eq] at h
  exact ⟨h.1 a ha, h.2 a ha⟩

set_option maxHeartbeats 16000000 in
set_option maxRecDepth 100000 in
theorem joined_any {w : World} {c : Nat} {A : Option Addr} {l : List TA} {vj : Value} {j : Bool → Bool → Bool} (h : TAs w w.heap.size A l) (hj : Op3 vj j) (hbr : ∀ a ∈ l, a.branches.length ≤ 900000) (hl6 : l.length ≤ 1000) :
    Calls Try.prog 61 #[.agg #[vj], .slice A l.length c] w (Ret fun r w' => Below w.heap.size w w' ∧ JoinR w' w.heap.size j l r) := by
  obtain ⟨w1, hw1, hb1, hB1, hk1⟩ := box_blk w #[vj] 90
  obtain ⟨w2, hw2, hb2, hB2, hk2⟩ := box_blk w1 #[.int .i64 0, .int .i64 0, .slice none 0 0, .slice none 0 0, .slice none 0 0] 26
  have z1 := hb1.size
  have hb02 := hb1.trans (hb2.mono z1)
  have hHS := hide (h.keep (fun _ hp => hb02.cell hp) hb02.size)
  have hJ := hide hj
  have hc2 := hB2.cell
  have hf2 := hB2.frozen
  have hl2 := hB2.lt
  have hH02 := hide hb02
  have hB12 := hB1.kept hk2 id
  by_cases h0 : l.length = 0
  · have hl0 : l = [] := List.length_eq_zero_iff.1 h0
    clear hj z1
    go_enter Try.func61, Try.ntmps61
    go_wp2_with fail
    obtain ⟨wF, hwF, hgF, hkF⟩ := set5_facts hB2 (.int .i64 0) (.int .i64 0) (.slice none 0 0) (.slice none 0 0) (.slice none 0 0)
    change bodyPost _ _ _ _ _ (set5 w2 w1.heap.size (.int .i64 0) (.int .i64 0) (.slice none 0 0) (.slice none 0 0) (.slice none 0 0))
    rw [hwF]
    have hcF := hgF.cell
    have z1 := hb1.size
    exact bodyPost_ret (v := .tuple #[zeroTA, .int .i64 1]) (by simp [results, Try.results61, go_sem, hcF, zeroTA]) rfl ⟨hH02.out.trans (hkF.below hH02.out.size (fun b hb e => by omega)), .inl ⟨.inl hl0, rfl⟩⟩
  · have hne : l ≠ [] := fun e => h0 (by rw [e]; rfl)
    have hNE := hide hne
    have hz0 : ((l.length : Int) == 0) = false := by simp; omega
    have hz02 := hide hH02.out.size
    have hZ1 := hide z1
    clear hj z1 hne
    go_enter Try.func61, Try.ntmps61
    go_wp2_with fail
    refine Calls.ret (check_any hHS.out) ?_
    rintro v w3 ⟨rfl, hb3⟩
    have hB23 := hB2.kept (Kept.of_below hb3 (fun _ => False)) id
    have hc3 := hB23.cell
    have hf3 := hB23.frozen
    have hl3 := hB23.lt
    have hH23 := hide hb3
    have hz3 := hide hb3.size
    cases hc : chkL l with
    | false =>
      simp only [errno]
      have hC := hide hc
      clear hc hb3
      go_wp2_with fail
      obtain ⟨wF, hwF, hgF, hkF⟩ := set5_facts hB23 (.int .i64 0) (.int .i64 0) (.slice none 0 0) (.slice none 0 0) (.slice none 0 0)
      change bodyPost _ _ _ _ _ (set5 w3 w1.heap.size (.int .i64 0) (.int .i64 0) (.slice none 0 0) (.slice none 0 0) (.slice none 0 0))
      rw [hwF]
      have hcF := hgF.cell
      exact bodyPost_ret (v := .tuple #[zeroTA, .int .i64 1]) (by simp [results, Try.results61, go_sem, hcF, zeroTA]) rfl ⟨(hH02.out.trans (hH23.out.mono hz02.out)).trans (hkF.below (Nat.le_trans hz02.out hz3.out) (fun b hb e => by have := hZ1.out; omega)), .inl ⟨.inr hC.out, rfl⟩⟩
    | true =>
      simp only [errno]
      have hC := hide hc
      clear hc hb3
      have hn := h.1
      have hLJ : 1 ≤ (l.headD ⟨0, 0, [], [], []⟩).letters ∧ (l.headD ⟨0, 0, [], [], []⟩).letters ≤ 8 := by
        obtain ⟨a, ha⟩ := get_lt (l := l) (i := 0) (by omega)
        obtain ⟨h1, h2⟩ := chkL_at hC.out (List.mem_of_getElem? ha)
        have := TA.valid_parts h1
        rw [← h2]
        exact ⟨this.1, this.2.1⟩
      obtain ⟨L0, hL0⟩ : ∃ L0, (l.headD ⟨0, 0, [], [], []⟩).letters = L0 := ⟨_, rfl⟩
      rw [hL0] at hLJ
      have hLJH := hide hLJ
      have hLH := hide hL0
      clear hLJ hL0
      go_wp2_with fail
      go_loopw [7, 8, 25] (fun oo ss ii wr => ∃ (k s : Nat), ii = .int .i64 (k : Int) ∧ ss = .int .i64 (s : Int) ∧ k ≤ l.length ∧ Below w3.heap.size w3 wr ∧ Hid (∀ a ∈ l.take k, ¬ a.Large) ∧ Hid (JoinS wr w.heap.size L0.toNat j (l.take k) oo s)) (fun _ _ ii _ => l.length - (intOf ii).toNat)
      case atStart => exact ⟨0, 1, rfl, rfl, Nat.zero_le _, Below.refl _ _, fun a ha => by simp at ha, ⟨SzR.nil, by omega, by omega, fun _ => ⟨rfl, rfl⟩, fun h => absurd rfl h⟩⟩
      case round =>
        obtain ⟨k, s, rfl, rfl, hk, hB, hNL, hJS⟩ := hrel
        have hB2r := hB23.kept (Kept.of_below hB (fun _ => False)) id
        have hB1r := (hB12.kept (Kept.of_below hH23.out (fun _ => False)) id).kept (Kept.of_below hB (fun _ => False)) id
        have hzr := hide hB.size
        have hb0r := hide ((hH02.out.trans (hH23.out.mono hz02.out)).trans (hB.mono (Nat.le_trans hz02.out hz3.out)))
        have hHB := hide hB
        by_cases hlt : k < l.length
        · obtain ⟨b, off, a, A1, c1, A2, c2, A3, c3, rfl, hbb, ha, q0, q1, q2, q3, q4, s1, s2, s3⟩ := h.at hlt
          have q0' := (hb0r.out.cell (by exact hbb)).trans q0
          have q1' := (hb0r.out.cell (by exact hbb)).trans q1
          have q2' := (hb0r.out.cell (by exact hbb)).trans q2
          have q3' := (hb0r.out.cell (by exact hbb)).trans q3
          have q4' := (hb0r.out.cell (by exact hbb)).trans q4
          obtain ⟨w5, hw5, hb5, hB5, hk5⟩ := box_blk wr #[.int .i64 a.letters, .int .i64 a.states, .slice A1 a.accept.length c1, .slice A2 a.leaves.length c2, .slice A3 a.branches.length c3] 26
          have hb05 := hb0r.out.trans (hb5.mono hb0r.out.size)
          have hT : IsTA w5 w5.heap.size (.agg #[.int .i64 a.letters, .int .i64 a.states, .slice A1 a.accept.length c1, .slice A2 a.leaves.length c2, .slice A3 a.branches.length c3]) a :=
            IsTA.keep ⟨A1, c1, A2, c2, A3, c3, rfl, s1, s2, s3⟩ (fun _ hp => hb05.cell hp) hb05.size
          have hHT := hide hT
          have hcb := hB5.cell
          have hHA := hide ha
          have hmem := List.mem_of_getElem? ha
          have hbra := hide (hbr a hmem)
          have hchk := hide (chkL_at hC.out hmem)
          have hJ5 := hide (hJS.out.keep0 hk5)
          have hB25 := hB2r.kept hk5 id
          have hB15 := hB1r.kept hk5 id
          have hH05 := hide hb05
          have hH35 := hide (hHB.out.trans (hb5.mono hzr.out))
          have hz5 := hide hb5.size
          clear q0 q1 q2 q3 q4 s1 s2 s3 hT hc3 hf3 hc2 hf2 hb05 hb5 hB ha hmem
          go_wp2_with fail
          refine Calls.ret (treeMin_any _ a w5 hHT.out hchk.out.1 hbra.out) ?_
          rintro v w6 ⟨hb6, hres⟩
          have hB26 := hB25.kept (Kept.of_below hb6 (fun _ => False)) id
          have hB16 := hB15.kept (Kept.of_below hb6 (fun _ => False)) id
          have hJ6 := hide (hJ5.out.keep0 (Kept.of_below hb6 (fun _ => False)))
          have hH06 := hide (hH05.out.trans (hb6.mono hH05.out.size))
          have hH36 := hide (hH35.out.trans (hb6.mono hH35.out.size))
          rcases hres with ⟨rfl, hlg⟩ | ⟨gN, ac', lf', t', rfl, hgN, ⟨va', vl', vb', hN⟩, hok', h64', hnl', hcan'⟩
          · have hLG := hide hlg
            have hc6 := hB26.cell
            have hf6 := hB26.frozen
            have hl6' := hB26.lt
            clear hlg hb6
            go_wp2_with fail
            obtain ⟨wF, hwF, hgF, hkF⟩ := set5_facts hB26 (.int .i64 0) (.int .i64 0) (.slice none 0 0) (.slice none 0 0) (.slice none 0 0)
            change bodyPost _ _ _ _ _ (set5 w6 w1.heap.size (.int .i64 0) (.int .i64 0) (.slice none 0 0) (.slice none 0 0) (.slice none 0 0))
            rw [hwF]
            have hcF := hgF.cell
            exact bodyPost_ret (v := .tuple #[zeroTA, .int .i64 4]) (by simp [results, Try.results61, go_sem, hcF, zeroTA]) rfl ⟨hH06.out.trans (hkF.below hH06.out.size (fun b hb e => by have := hZ1.out; omega)), .inr (.inl ⟨hNE.out, hC.out, .inl ⟨a, List.mem_of_getElem? hHA.out, hLG.out⟩, rfl⟩)⟩
          · have hLa : a.letters.toNat = L0.toNat := by rw [hchk.out.2, hLH.out]
            have hCNN : Hid (CanN a ac'.length) := ⟨_, _, _, hcan'⟩
            rw [hLa] at hN hok' hcan'
            have hNN := hide hN
            have hOO := hide hok'
            have hNLa := hide hnl'
            have hCN := hide hcan'
            have hLL := hide hLa
            have hzb := hide (Nat.le_trans hH05.out.size (Nat.le_refl _))
            clear hN hok' hnl' hcan' hLa hb6
            go_wp2_with fail
            refine (states_any hNN.out (by omega)).mono ?_
            rintro e w7 ⟨rfl, rfl⟩
            have htk : l.take (k + 1) = l.take k ++ [a] := by rw [List.take_add_one, hHA.out]; rfl
            have hTK := hide htk
            have hNL' : Hid (∀ b ∈ l.take (k + 1), ¬ b.Large) := by
              intro b hb
              rw [hTK.out, List.mem_append, List.mem_singleton] at hb
              rcases hb with hb | rfl
              · exact hNL.out b hb
              · exact hNLa.out
            have hpos' := hOO.out.pos (by have := hLJH.out; omega)
            have hM7 : Hid (Mach w6 w.heap.size gN L0.toNat ac' lf' t') := Mach.weak ⟨_, _, _, hNN.out⟩ hzb.out
            clear htk
            by_cases hk0 : k = 0
            · subst hk0
              obtain ⟨rfl, rfl⟩ := hJ6.out.none_ rfl
              have hn65 : (ac'.length : Int) ≤ 65 := by omega
              have hn65' : (ac'.length : Int) < 65 := by omega
              go_wp2_with fail
              refine ⟨⟨1, ac'.length, rfl, rfl, by omega, hH36.out, hNL'.out, ?_⟩, by simp [intOf]; omega⟩
              have hsz : SzR (l.take 1) ac'.length := by
                have := SzR.nil.snoc hCNN.out
                rw [Nat.one_mul, Nat.min_eq_left (by omega)] at this
                have e := hTK.out
                rw [List.take_zero] at e
                rw [e]
                exact this
              refine ⟨hsz, by omega, by omega, fun e => ?_, fun _ => ⟨gN, ac', lf', t', rfl, hM7.out, hOO.out, h64', fun _ => ⟨Nat.le_refl _, ?_⟩⟩⟩
              · rw [hTK.out] at e
                simp at e
              · have e := hTK.out
                rw [List.take_zero, List.nil_append] at e
                rw [e]
                exact hCN.out
            · have hne' : l.take k ≠ [] := fun e => by
                rcases List.take_eq_nil_iff.1 e with e | e
                · exact hk0 e
                · exact hNE.out e
              obtain ⟨gM, ac, lf, t, rfl, ⟨va, vl, vb, hM⟩, hok, h64, hrest⟩ := hJ6.out.some_ hne'
              have hMM := hide hM
              have hOK := hide hok
              have hRS := hide hrest
              have hNE' := hide hne'
              have hs1 := hJ6.out.pos
              have hs65 := hJ6.out.le
              have hmul : s * ac'.length ≤ 65 * 64 := Nat.mul_le_mul hs65 h64'
              have hcO : w6.cell? ⟨w.heap.size, 0, none⟩ = some vj := hB16.cell 0
              have hM0 : (0 : Int) ≤ (s : Int) * (ac'.length : Int) := by rw [← Int.natCast_mul]; omega
              have hM1 : (s : Int) * (ac'.length : Int) ≤ 4160 := by rw [← Int.natCast_mul]; omega
              have hZS := hJ6.out.sz.snoc hCNN.out
              rw [← hTK.out] at hZS
              have hZZ := hide hZS
              clear hM hok hrest hne' hZS
              by_cases hs : s * ac'.length ≤ 64
              · have hp1 : (s : Int) * (ac'.length : Int) ≤ 65 := by rw [← Int.natCast_mul]; omega
                have hp2 : (s : Int) * (ac'.length : Int) < 65 := by rw [← Int.natCast_mul]; omega
                have hp3 : (s : Int) * (ac'.length : Int) ≤ 64 := by rw [← Int.natCast_mul]; omega
                go_wp2_with fail
                obtain ⟨vA, vL, vB, hN7⟩ := hM7.out
                refine Calls.ret (product_any hMM.out hN7 hOK.out hOO.out (by have := hLJH.out; omega) (by have := hLJH.out; omega) h64 h64' hJ.out) ?_
                rintro v w8 ⟨hb8, gR, ar, lr, tr, rfl, hgR, hMr, hokr, hler, hcanr⟩
                have hb38 := hide (hH36.out.trans (hb8.mono hH36.out.size))
                have hMR := hide (hMr.weak hH06.out.size)
                have hOR := hide hokr
                have hCR := hide hcanr
                have hLR := hide hler
                clear hMr hokr hler hcanr hb8 hcO
                go_wp2_with fail
                refine ⟨⟨k + 1, s * ac'.length, by go_num, by rw [Int.natCast_mul], by omega, hb38.out, hNL'.out, ?_⟩, by simp [intOf]; omega⟩
                obtain ⟨hle, hcan⟩ := hRS.out (Nat.le_trans (Nat.le_mul_of_pos_right s hpos') hs)
                have har : ar.length ≤ s * ac'.length := Nat.le_trans hLR.out (Nat.mul_le_mul_right _ hle)
                refine ⟨by have := hZZ.out; rwa [Nat.min_eq_left (by omega)] at this, Nat.mul_pos hs1 hpos', by omega, fun e => ?_, fun _ => ⟨gR, ar, lr, tr, rfl, hMR.out, hOR.out, by omega, fun _ => ⟨har, ?_⟩⟩⟩
                · rw [hTK.out] at e
                  simp at e
                · refine hCR.out.congr fun u hu => ?_
                  rw [hTK.out, langJ_snoc j hNE'.out, hcan.lang u hu, hCN.out.lang u hu]
              · have hp1 : ¬ (s : Int) * (ac'.length : Int) < 65 := by rw [← Int.natCast_mul]; omega
                have hp2 : (65 : Int) ≤ (s : Int) * (ac'.length : Int) := by rw [← Int.natCast_mul]; omega
                have hp3 : ¬ (64 : Int) < 0 := by omega
                go_wp2_with fail
                refine ⟨⟨k + 1, 65, by go_num, congrArg (Value.int .i64) (by split <;> omega), by omega, hH36.out, hNL'.out, ?_⟩, by simp [intOf]; omega⟩
                refine ⟨by have := hZZ.out; rwa [Nat.min_eq_right (by omega)] at this, by omega, by omega, fun e => ?_, fun _ => ⟨gM, ac, lf, t, rfl, ⟨va, vl, vb, hMM.out⟩, hOK.out, h64, fun h => absurd h (by omega)⟩⟩
                rw [hTK.out] at e
                simp at e
        · have hke : k = l.length := by omega
          have htl : l.take k = l := List.take_of_length_le (by omega)
          rw [htl] at hNL hJS
          obtain ⟨gM, ac, lf, t, rfl, ⟨va, vl, vb, hM⟩, hok, h64, hrest⟩ := hJS.out.some_ hNE.out
          have hMM := hide hM
          have hOK := hide hok
          have hRS := hide hrest
          have hcr := hB2r.cell
          have hfr := hB2r.frozen
          have hlr := hB2r.lt
          clear hM hok hrest htl hB hc3 hf3 hl3
          by_cases hs : s ≤ 64
          · have hsi : ¬ (64 : Int) < (s : Int) := by omega
            obtain ⟨L, hLe⟩ : ∃ L, L0.toNat = L := ⟨_, rfl⟩
            have hLh := hide hLe
            rw [hLe] at hMM hOK hRS
            have hall : ∀ a ∈ l, a.letters.toNat = L := fun a ha => by rw [(chkL_at hC.out ha).2, hLH.out, hLe]
            have hAL := hide hall
            have hL8 : L ≤ 8 := by have := hLJH.out; omega
            clear hLe hall
            go_wp2_with fail
            refine Calls.ret (plain_any hMM.out hOK.out hL8 (by omega)) ?_
            rintro v w5 ⟨hb5, va', vl', vb', rfl, ho1, ho2, ho3⟩
            obtain ⟨A5, d5, rfl⟩ := slice_of_own ho1
            obtain ⟨A6, d6, rfl⟩ := slice_of_own ho2
            obtain ⟨A7, d7, rfl⟩ := slice_of_own ho3
            have hB25 := hB2r.below hb5
            have hc25 := hB25.cell
            have hf25 := hB25.frozen
            have hlt5 := hB25.lt
            have hb05 := hide (hb0r.out.trans (hb5.mono hb0r.out.size))
            clear hcr hfr hlr hb5
            go_wp2_with fail
            obtain ⟨wF, hwF, hgF, hkF⟩ := set5_facts hB25 (.int .i64 (L : Int)) (.int .i64 (ac.length : Int)) (.slice A5 (accIdx ac).length d5) (.slice A6 (plLv lf).length d6) (.slice A7 (plBr L ac.length t).length d7)
            change bodyPost _ _ _ _ _ (set5 w5 w1.heap.size (.int .i64 (L : Int)) (.int .i64 (ac.length : Int)) (.slice A5 (accIdx ac).length d5) (.slice A6 (plLv lf).length d6) (.slice A7 (plBr L ac.length t).length d7))
            rw [hwF]
            have hcF := hgF.cell
            have hne : ∀ e, e ≠ 26 → ∀ g cs, g = w1.heap.size → ¬ Blk w5 g e cs := fun e he g cs eg hb => by subst eg; exact hB25.ne_ hb (fun h => he h.symm) rfl
            obtain ⟨-, hcan⟩ := hRS.out hs
            have hbr0 := hb0r.out.size
            refine bodyPost_ret (v := .tuple #[.agg #[.int .i64 (L : Int), .int .i64 (ac.length : Int), .slice A5 (accIdx ac).length d5, .slice A6 (plLv lf).length d6, .slice A7 (plBr L ac.length t).length d7], .int .i64 0]) (by simp [results, Try.results61, go_sem, hcF]) rfl
              ⟨hb05.out.trans (hkF.below hb05.out.size (fun b hb e => by have := hZ1.out; omega)), .inr (.inr ⟨hNE.out, hC.out, hNL.out, s, _, L, ac, lf, t, hJS.out.sz, hs, rfl, hAL.out, ⟨_, _, _, rfl, ?_, ?_, ?_⟩, hOK.out, h64, hcan⟩)⟩
            · exact own_weak (own_ty hkF ho1 (hne 3 (by decide))) hbr0
            · exact own_weak (own_ty hkF ho2 (hne 36 (by decide))) hbr0
            · exact own_weak (own_ty hkF ho3 (hne 59 (by decide))) hbr0
          · have hsi : (64 : Int) < (s : Int) := by omega
            go_wp2_with fail
            obtain ⟨wF, hwF, hgF, hkF⟩ := set5_facts hB2r (.int .i64 0) (.int .i64 0) (.slice none 0 0) (.slice none 0 0) (.slice none 0 0)
            change bodyPost _ _ _ _ _ (set5 wr w1.heap.size (.int .i64 0) (.int .i64 0) (.slice none 0 0) (.slice none 0 0) (.slice none 0 0))
            rw [hwF]
            have hcF := hgF.cell
            exact bodyPost_ret (v := .tuple #[zeroTA, .int .i64 4]) (by simp [results, Try.results61, go_sem, hcF, zeroTA]) rfl ⟨hb0r.out.trans (hkF.below hb0r.out.size (fun b hb e => by have := hZ1.out; omega)), .inr (.inl ⟨hNE.out, hC.out, .inr ⟨hNL.out, s, hJS.out.sz, by omega⟩, rfl⟩)⟩
end Go.Proofs.Ytnimlcbgeiajiaa

namespace Go.Proofs.Ytnimlcbgeiajiaa
open Go.RowKit

set_option maxHeartbeats 8000000 in
set_option maxRecDepth 100000 in
theorem union_any {w : World} {c : Nat} {A : Option Addr} {l : List TA} (h : TAs w w.heap.size A l) (hbr : ∀ a ∈ l, a.branches.length ≤ 900000) (hl6 : l.length ≤ 1000) :
    Calls Try.prog 34 #[.slice A l.length c] w (Ret fun r w' => Below w.heap.size w w' ∧ JoinR w' w.heap.size (fun a b => a || b) l r) := by
  obtain ⟨w1, hw1, hb1, hB1, hk1⟩ := box_blk w #[.int .i64 0, .int .i64 0, .slice none 0 0, .slice none 0 0, .slice none 0 0] 26
  have z1 := hide hb1.size
  have hH1 := hide hb1
  have hHS := hide (h.keep (fun _ hp => hb1.cell hp) hb1.size)
  clear h hb1
  go_enter Try.func34, Try.ntmps34
  go_wp2_with fail
  refine Calls.ret (op_any (f := 62) (j := 86) (.inl ⟨rfl, rfl⟩) w1) ?_
  rintro v w2 ⟨rfl, hb2⟩
  have hB2 := hB1.kept (Kept.of_below hb2 (fun _ => False)) id
  have hH02 := hide (hH1.out.trans (hb2.mono z1.out))
  have hS2 := hide (hHS.out.keep (fun _ hp => hb2.cell hp) hb2.size)
  clear hb2
  go_wp2_with fail
  refine Calls.ret (joined_any (j := fun a b => a || b) hS2.out (.inl ⟨rfl, rfl⟩) hbr hl6) ?_
  rintro v w3 ⟨hb3, hJR⟩
  have hB3 := hB2.kept (Kept.of_below hb3 (fun _ => False)) id
  have hc3 := hB3.cell
  have hf3 := hB3.frozen
  have hl3 := hB3.lt
  have hH03 := hide (hH02.out.trans (hb3.mono hH02.out.size))
  have hz2 := hide hH02.out.size
  clear hb3
  have hJR2 := hide hJR
  rcases hJR with ⟨h1, rfl⟩ | ⟨h1, h2, h3, rfl⟩ | ⟨h1, h2, h3, s, v, L, ac, lf, t, h4, h5, rfl, h6, ⟨va, vl, vb, rfl, ho1, ho2, ho3⟩, h7, h8, h9⟩
  · have e1 := hide h1
    unfold zeroTA
    clear h1 hJR2
    go_wp2_with fail
    obtain ⟨wF, hwF, hgF, hkF⟩ := set5_facts hB3 (.int .i64 0) (.int .i64 0) (.slice none 0 0) (.slice none 0 0) (.slice none 0 0)
    change bodyPost _ _ _ _ _ (set5 w3 w.heap.size (.int .i64 0) (.int .i64 0) (.slice none 0 0) (.slice none 0 0) (.slice none 0 0))
    rw [hwF]
    have hcF := hgF.cell
    exact bodyPost_ret (v := .tuple #[zeroTA, .int .i64 1]) (by simp [results, Try.results34, go_sem, hcF, zeroTA]) rfl ⟨hH03.out.trans (hkF.below hH03.out.size (fun b hb e => by omega)), .inl ⟨e1.out, rfl⟩⟩
  · have e1 := hide h1
    have e2 := hide h2
    have e3 := hide h3
    unfold zeroTA
    clear h1 h2 h3 hJR2
    go_wp2_with fail
    obtain ⟨wF, hwF, hgF, hkF⟩ := set5_facts hB3 (.int .i64 0) (.int .i64 0) (.slice none 0 0) (.slice none 0 0) (.slice none 0 0)
    change bodyPost _ _ _ _ _ (set5 w3 w.heap.size (.int .i64 0) (.int .i64 0) (.slice none 0 0) (.slice none 0 0) (.slice none 0 0))
    rw [hwF]
    have hcF := hgF.cell
    exact bodyPost_ret (v := .tuple #[zeroTA, .int .i64 4]) (by simp [results, Try.results34, go_sem, hcF, zeroTA]) rfl ⟨hH03.out.trans (hkF.below hH03.out.size (fun b hb e => by omega)), .inr (.inl ⟨e1.out, e2.out, e3.out, rfl⟩)⟩
  · have e1 := hide h1
    have e2 := hide h2
    have e3 := hide h3
    have e4 := hide h4
    have e6 := hide h6
    have e7 := hide h7
    have e9 := hide h9
    obtain ⟨A5, d5, rfl⟩ := slice_of_own ho1
    obtain ⟨A6, d6, rfl⟩ := slice_of_own ho2
    obtain ⟨A7, d7, rfl⟩ := slice_of_own ho3
    clear h1 h2 h3 h4 h6 h7 h9 hJR2
    go_wp2_with fail
    obtain ⟨wF, hwF, hgF, hkF⟩ := set5_facts hB3 (.int .i64 (L : Int)) (.int .i64 (ac.length : Int)) (.slice A5 (accIdx ac).length d5) (.slice A6 (plLv lf).length d6) (.slice A7 (plBr L ac.length t).length d7)
    change bodyPost _ _ _ _ _ (set5 w3 w.heap.size (.int .i64 (L : Int)) (.int .i64 (ac.length : Int)) (.slice A5 (accIdx ac).length d5) (.slice A6 (plLv lf).length d6) (.slice A7 (plBr L ac.length t).length d7))
    rw [hwF]
    have hcF := hgF.cell
    have hne : ∀ e, e ≠ 26 → ∀ g cs, g = w.heap.size → ¬ Blk w3 g e cs := fun e he g cs eg hb => by subst eg; exact hB3.ne_ hb (fun h => he h.symm) rfl
    refine bodyPost_ret (v := .tuple #[.agg #[.int .i64 (L : Int), .int .i64 (ac.length : Int), .slice A5 (accIdx ac).length d5, .slice A6 (plLv lf).length d6, .slice A7 (plBr L ac.length t).length d7], .int .i64 0]) (by simp [results, Try.results34, go_sem, hcF]) rfl
      ⟨hH03.out.trans (hkF.below hH03.out.size (fun b hb e => by omega)), .inr (.inr ⟨e1.out, e2.out, e3.out, s, _, L, ac, lf, t, e4.out, h5, rfl, e6.out, ⟨_, _, _, rfl, ?_, ?_, ?_⟩, e7.out, h8, e9.out⟩)⟩
    · exact own_weak (own_ty hkF ho1 (hne 3 (by decide))) hz2.out
    · exact own_weak (own_ty hkF ho2 (hne 36 (by decide))) hz2.out
    · exact own_weak (own_ty hkF ho3 (hne 59 (by decide))) hz2.out

set_option maxHeartbeats 8000000 in
set_option maxRecDepth 100000 in
theorem inter_any {w : World} {c : Nat} {A : Option Addr} {l : List TA} (h : TAs w w.heap.size A l) (hbr : ∀ a ∈ l, a.branches.length ≤ 900000) (hl6 : l.length ≤ 1000) :
    Calls Try.prog 36 #[.slice A l.length c] w (Ret fun r w' => Below w.heap.size w w' ∧ JoinR w' w.heap.size (fun a b => a && b) l r) := by
  obtain ⟨w1, hw1, hb1, hB1, hk1⟩ := box_blk w #[.int .i64 0, .int .i64 0, .slice none 0 0, .slice none 0 0, .slice none 0 0] 26
  have z1 := hide hb1.size
  have hH1 := hide hb1
  have hHS := hide (h.keep (fun _ hp => hb1.cell hp) hb1.size)
  clear h hb1
  go_enter Try.func36, Try.ntmps36
  go_wp2_with fail
  refine Calls.ret (op_any (f := 64) (j := 87) (.inr (.inl ⟨rfl, rfl⟩)) w1) ?_
  rintro v w2 ⟨rfl, hb2⟩
  have hB2 := hB1.kept (Kept.of_below hb2 (fun _ => False)) id
  have hH02 := hide (hH1.out.trans (hb2.mono z1.out))
  have hS2 := hide (hHS.out.keep (fun _ hp => hb2.cell hp) hb2.size)
  clear hb2
  go_wp2_with fail
  refine Calls.ret (joined_any (j := fun a b => a && b) hS2.out (.inr (.inl ⟨rfl, rfl⟩)) hbr hl6) ?_
  rintro v w3 ⟨hb3, hJR⟩
  have hB3 := hB2.kept (Kept.of_below hb3 (fun _ => False)) id
  have hc3 := hB3.cell
  have hf3 := hB3.frozen
  have hl3 := hB3.lt
  have hH03 := hide (hH02.out.trans (hb3.mono hH02.out.size))
  have hz2 := hide hH02.out.size
  clear hb3
  have hJR2 := hide hJR
  rcases hJR with ⟨h1, rfl⟩ | ⟨h1, h2, h3, rfl⟩ | ⟨h1, h2, h3, s, v, L, ac, lf, t, h4, h5, rfl, h6, ⟨va, vl, vb, rfl, ho1, ho2, ho3⟩, h7, h8, h9⟩
  · have e1 := hide h1
    unfold zeroTA
    clear h1 hJR2
    go_wp2_with fail
    obtain ⟨wF, hwF, hgF, hkF⟩ := set5_facts hB3 (.int .i64 0) (.int .i64 0) (.slice none 0 0) (.slice none 0 0) (.slice none 0 0)
    change bodyPost _ _ _ _ _ (set5 w3 w.heap.size (.int .i64 0) (.int .i64 0) (.slice none 0 0) (.slice none 0 0) (.slice none 0 0))
    rw [hwF]
    have hcF := hgF.cell
    exact bodyPost_ret (v := .tuple #[zeroTA, .int .i64 1]) (by simp [results, Try.results36, go_sem, hcF, zeroTA]) rfl ⟨hH03.out.trans (hkF.below hH03.out.size (fun b hb e => by omega)), .inl ⟨e1.out, rfl⟩⟩
  · have e1 := hide h1
    have e2 := hide h2
    have e3 := hide h3
    unfold zeroTA
    clear h1 h2 h3 hJR2
    go_wp2_with fail
    obtain ⟨wF, hwF, hgF, hkF⟩ := set5_facts hB3 (.int .i64 0) (.int .i64 0) (.slice none 0 0) (.slice none 0 0) (.slice none 0 0)
    change bodyPost _ _ _ _ _ (set5 w3 w.heap.size (.int .i64 0) (.int .i64 0) (.slice none 0 0) (.slice none 0 0) (.slice none 0 0))
    rw [hwF]
    have hcF := hgF.cell
    exact bodyPost_ret (v := .tuple #[zeroTA, .int .i64 4]) (by simp [results, Try.results36, go_sem, hcF, zeroTA]) rfl ⟨hH03.out.trans (hkF.below hH03.out.size (fun b hb e => by omega)), .inr (.inl ⟨e1.out, e2.out, e3.out, rfl⟩)⟩
  · have e1 := hide h1
    have e2 := hide h2
    have e3 := hide h3
    have e4 := hide h4
    have e6 := hide h6
    have e7 := hide h7
    have e9 := hide h9
    obtain ⟨A5, d5, rfl⟩ := slice_of_own ho1
    obtain ⟨A6, d6, rfl⟩ := slice_of_own ho2
    obtain ⟨A7, d7, rfl⟩ := slice_of_own ho3
    clear h1 h2 h3 h4 h6 h7 h9 hJR2
    go_wp2_with fail
    obtain ⟨wF, hwF, hgF, hkF⟩ := set5_facts hB3 (.int .i64 (L : Int)) (.int .i64 (ac.length : Int)) (.slice A5 (accIdx ac).length d5) (.slice A6 (plLv lf).length d6) (.slice A7 (plBr L ac.length t).length d7)
    change bodyPost _ _ _ _ _ (set5 w3 w.heap.size (.int .i64 (L : Int)) (.int .i64 (ac.length : Int)) (.slice A5 (accIdx ac).length d5) (.slice A6 (plLv lf).length d6) (.slice A7 (plBr L ac.length t).length d7))
    rw [hwF]
    have hcF := hgF.cell
    have hne : ∀ e, e ≠ 26 → ∀ g cs, g = w.heap.size → ¬ Blk w3 g e cs := fun e he g cs eg hb => by subst eg; exact hB3.ne_ hb (fun h => he h.symm) rfl
    refine bodyPost_ret (v := .tuple #[.agg #[.int .i64 (L : Int), .int .i64 (ac.length : Int), .slice A5 (accIdx ac).length d5, .slice A6 (plLv lf).length d6, .slice A7 (plBr L ac.length t).length d7], .int .i64 0]) (by simp [results, Try.results36, go_sem, hcF]) rfl
      ⟨hH03.out.trans (hkF.below hH03.out.size (fun b hb e => by omega)), .inr (.inr ⟨e1.out, e2.out, e3.out, s, _, L, ac, lf, t, e4.out, h5, rfl, e6.out, ⟨_, _, _, rfl, ?_, ?_, ?_⟩, e7.out, h8, e9.out⟩)⟩
    · exact own_weak (own_ty hkF ho1 (hne 3 (by decide))) hz2.out
    · exact own_weak (own_ty hkF ho2 (hne 36 (by decide))) hz2.out
    · exact own_weak (own_ty hkF ho3 (hne 59 (by decide))) hz2.out
end Go.Proofs.Ytnimlcbgeiajiaa

namespace Go.Proofs.Ytnimlcbgeiajiaa
open Go.RowKit

theorem all_of_takes {l : List TA} {f : TA → Bool} (h : (l.take l.length).all f = true) : l.all f = true := by
  rwa [List.take_length] at h
theorem chk_all {l : List TA} (h : l.all (fun a => a.valid && decide (a.letters = (l.headD ⟨0, 0, [], [], []⟩).letters)) = true) : chkL l = true := by
  unfold chkL
  simp only [List.all_eq_true, Bool.and_eq_true, decide_eq_true_eq] at h ⊢
  exact ⟨fun a ha => (h a ha).1, fun a ha => (h a ha).2⟩
theorem chk_none {l : List TA} {a : TA} (ha : a ∈ l) (h : (a.valid && decide (a.letters = (l.headD ⟨0, 0, [], [], []⟩).letters)) = false) : chkL l = false := by
  cases e : chkL l with
  | false => rfl
  | true =>
    obtain ⟨h1, h2⟩ := chkL_at e ha
    rw [h1, h2] at h
    simp at h

set_option maxHeartbeats 8000000 in
set_option maxRecDepth 100000 in
theorem rj_check {w : World} {g4 c : Nat} {A : Option Addr} {l : List TA} (h : TAs w w.heap.size A l) (hne : 0 < l.length) (b4 : Blk w g4 26 #[.int .i64 0, .int .i64 0, .slice none 0 0, .slice none 0 0, .slice none 0 0])
    {u1 u2 u3 u5 u7 u8 u9 u10 u11 u12 u13 u14 u15 u16 u17 u18 u19 u20 u21 u22 u23 u24 u25 u26 u27 u28 u29 u30 u31 u32 u33 u34 u35 u36 u37 u38 u39 u40 u41 u42 u43 u44 u45 u46 u47 u48 u49 u50 u51 u52 u53 u54 u55 u56 u57 u58 u59 u60 u61 u62 u63 u64 u65 u66 u67 u68 u69 u70 u71 u72 u73 u74 u75 u76 u77 u78 u79 u80 u81 u82 u83 u84 u85 u86 u87 u88 u89 u90 u91 : Value}
    {Q : Exit → Act → World → Prop} (hN : Reg.NoQ Q)
    (hQ : chkL l = true → ∀ (x5 x6 x18 x19 x20 x21 x22 x23 x24 x25 x26 x27 x28 x29 x30 x31 x32 x33 x34 x35 x36 x37 x38 x39 x40 x41 x42 : Value) (w' : World), Below w.heap.size w w' → Q (.exit 0) ⟨List.toArray ((.slice A l.length c) :: u1 :: u2 :: u3 :: (.pointer (some ⟨g4, 0, none⟩)) :: x5 :: x6 :: u7 :: u8 :: u9 :: u10 :: u11 :: u12 :: u13 :: u14 :: u15 :: u16 :: u17 :: x18 :: x19 :: x20 :: x21 :: x22 :: x23 :: x24 :: x25 :: x26 :: x27 :: x28 :: x29 :: x30 :: x31 :: 
      x32 :: x33 :: x34 :: x35 :: x36 :: x37 :: x38 :: x39 :: x40 :: x41 :: x42 :: u43 :: u44 :: u45 :: u46 :: u47 :: u48 :: u49 :: u50 :: u51 :: u52 :: u53 :: u54 :: u55 :: u56 :: u57 :: u58 :: u59 :: u60 :: u61 :: u62 :: u63 :: u64 :: u65 :: u66 :: u67 :: u68 :: 
      u69 :: u70 :: u71 :: u72 :: u73 :: u74 :: u75 :: u76 :: u77 :: u78 :: u79 :: u80 :: u81 :: u82 :: u83 :: u84 :: u85 :: u86 :: u87 :: u88 :: u89 :: u90 :: u91 :: []), []⟩ w')
    (hR : chkL l = false → ∀ (x6 x18 x19 x20 x21 x22 x23 x24 x25 x26 x27 x28 x29 x30 x31 x32 x33 x34 x35 x36 x37 x38 x39 x40 x41 x42 : Value) (w' : World), Kept w w' (fun k => k = g4) → Blk w' g4 26 #[.int .i64 0, .int .i64 0, .slice none 0 0, .slice none 0 0, .slice none 0 0] → Q .ret ⟨List.toArray ((.slice A l.length c) :: u1 :: u2 :: u3 :: (.pointer (some ⟨g4, 0, none⟩)) :: (.int .i64 1) :: x6 :: u7 :: u8 :: u9 :: u10 :: u11 :: u12 :: u13 :: u14 :: u15 :: u16 :: u17 :: x18 :: x19 :: x20 :: x21 :: x22 :: x23 :: x24 :: x25 :: x26 :: x27 :: x28 :: x29 :: 
      x30 :: x31 :: x32 :: x33 :: x34 :: x35 :: x36 :: x37 :: x38 :: x39 :: x40 :: x41 :: x42 :: u43 :: u44 :: u45 :: u46 :: u47 :: u48 :: u49 :: u50 :: u51 :: u52 :: u53 :: u54 :: u55 :: u56 :: u57 :: u58 :: u59 :: u60 :: u61 :: u62 :: u63 :: u64 :: u65 :: u66 :: 
      u67 :: u68 :: u69 :: u70 :: u71 :: u72 :: u73 :: u74 :: u75 :: u76 :: u77 :: u78 :: u79 :: u80 :: u81 :: u82 :: u83 :: u84 :: u85 :: u86 :: u87 :: u88 :: u89 :: u90 :: u91 :: []), []⟩ w') :
    (Code.loop (loopBody Try.f63 0)).wp Try.prog Q ⟨List.toArray ((.slice A l.length c) :: u1 :: u2 :: u3 :: (.pointer (some ⟨g4, 0, none⟩)) :: u5 :: (.int .i64 0) :: u7 :: u8 :: u9 :: u10 :: u11 :: u12 :: u13 :: u14 :: u15 :: u16 :: u17 :: u18 :: u19 :: u20 :: u21 :: u22 :: u23 :: u24 :: u25 :: u26 :: u27 :: u28 :: u29 :: 
      u30 :: u31 :: u32 :: u33 :: u34 :: u35 :: u36 :: u37 :: u38 :: u39 :: u40 :: u41 :: u42 :: u43 :: u44 :: u45 :: u46 :: u47 :: u48 :: u49 :: u50 :: u51 :: u52 :: u53 :: u54 :: u55 :: u56 :: u57 :: u58 :: u59 :: u60 :: u61 :: u62 :: u63 :: u64 :: u65 :: u66 :: 
      u67 :: u68 :: u69 :: u70 :: u71 :: u72 :: u73 :: u74 :: u75 :: u76 :: u77 :: u78 :: u79 :: u80 :: u81 :: u82 :: u83 :: u84 :: u85 :: u86 :: u87 :: u88 :: u89 :: u90 :: u91 :: []), []⟩ w := by
  conv => arg 2; arg 1; whnf
  have hn := h.1
  obtain ⟨b0, off0, a0, A10, c10, A20, c20, A30, c30, rfl, hb0, ha0, p0, -⟩ := h.at hne
  have hhead : l.headD ⟨0, 0, [], [], []⟩ = a0 := by
    cases l with
    | nil => simp at ha0
    | cons x xs => simp at ha0; simp [ha0]
  rw [Nat.zero_mul, Nat.add_zero] at p0
  have hHD := hide hhead
  have hP0 := hide p0
  have hB4 := hide b4
  clear hhead p0 ha0 b4
  go_loopw [6] (fun ii wr => ∃ (k : Nat), ii = .int .i64 (k : Int) ∧ k ≤ l.length ∧ Below w.heap.size w wr ∧ Hid ((l.take k).all (fun a => a.valid && decide (a.letters = (l.headD ⟨0, 0, [], [], []⟩).letters)) = true)) (fun ii _ => l.length - (intOf ii).toNat)
  case atStart => exact ⟨0, rfl, Nat.zero_le _, Below.refl _ _, rfl⟩
  case round =>
    obtain ⟨k, rfl, hk, hB, hV⟩ := hrel
    by_cases hlt : k < l.length
    · obtain ⟨b, off, a, A1, c1, A2, c2, A3, c3, e0, hb, ha, q0, q1, q2, q3, q4, s1, s2, s3⟩ := h.at hlt
      have e0 := Option.some.inj e0
      injection e0 with e0 e1 _
      subst e0 e1
      have q0' := (hB.cell (by exact hb)).trans q0
      have q1' := (hB.cell (by exact hb)).trans q1
      have q2' := (hB.cell (by exact hb)).trans q2
      have q3' := (hB.cell (by exact hb)).trans q3
      have q4' := (hB.cell (by exact hb)).trans q4
      have hBd : Below w.heap.size w wr.drew := hB.drew
      have hT : IsTA wr.drew wr.drew.heap.size (.agg #[.int .i64 a.letters, .int .i64 a.states, .slice A1 a.accept.length c1, .slice A2 a.leaves.length c2, .slice A3 a.branches.length c3]) a :=
        IsTA.keep ⟨A1, c1, A2, c2, A3, c3, rfl, s1, s2, s3⟩ (fun _ hp => hBd.cell hp) hBd.size
      have hHT := hide hT
      have hHB := hide hBd
      have hzB := hBd.size
      have hA := hide ha
      have hb4r := hide (hB4.out.below hBd)
      have hQ0 := hide q0
      clear q0 q1 q2 q3 q4 s1 s2 s3 hT ha hB hBd
      go_wp2_with fail
      refine Reg.region_plain [0, 0, 3, 7, 15, 31, 63, 127, 127, 511, 1023, 2047, 127, 4223, 12415, 28799, 65535, 131071] (by kernel_rfl) (by repeat (first | exact hN | refine Reg.NoQ.then ?_ | refine Reg.NoQ.inBlock ?_)) ?_
      cases hv : a.valid
      · have hVV := hide hv
        clear hv
        go_wp2_with (go_at_call 19; refine (refValidate_any _ _ _ hHT.out).mono ?_; rintro e w3 ⟨rfl, hb3⟩; rw [hVV.out]; simp only [errno]
                     have hb43 := hide (hb4r.out.below hb3)
                     have hc4 := hb43.out.cell
                     have hf4 := hb43.out.frozen
                     have hl4 := hb43.out.lt
                     have hkk := hide ((hHB.out.trans (hb3.mono (by omega))))
                     clear hb3)
        obtain ⟨wF, hwF, hgF, hkF⟩ := set5_facts hb43.out (.int .i64 0) (.int .i64 0) (.slice none 0 0) (.slice none 0 0) (.slice none 0 0)
        simp only [set5] at hwF
        rw [hwF]
        exact hR (chk_none (List.mem_of_getElem? hA.out) (by rw [hVV.out]; rfl)) _ _ _ _ _ _ _ _ _ _ _ _ _ _ _ _ _ _ _ _ _ _ _ _ _ _ wF ((Kept.of_below hkk.out _).trans hkF (fun _ _ e => e)) hgF
      · have hVV := hide hv
        clear hv
        by_cases he : a.letters = a0.letters
        · have heq : (a.letters == a0.letters) = true := by simp [he]
          have hE := hide he
          clear he
          go_wp2_with (go_at_call 19; refine (refValidate_any _ _ _ hHT.out).mono ?_; rintro e w3 ⟨rfl, hb3⟩; rw [hVV.out]; simp only [errno]
                       have hkk := hide ((hHB.out.trans (hb3.mono (by omega))))
                       have r0 := (hkk.out.cell (by exact hb)).trans hQ0.out
                       have p0 := (hkk.out.cell (by exact hb)).trans hP0.out
                       have hb43 := hide (hb4r.out.below hb3)
                       have hc4 := hb43.out.cell
                       have hf4 := hb43.out.frozen
                       have hl4 := hb43.out.lt
                       clear hb3)
          refine ⟨⟨k + 1, by go_num, by omega, hkk.out, ?_⟩, by simp [intOf]; omega⟩
          exact all_take_succ hA.out hV.out (by rw [hVV.out, hHD.out]; simpa using hE.out)
        · have heq : (a.letters == a0.letters) = false := by simpa using he
          have hE := hide he
          clear he
          go_wp2_with (go_at_call 19; refine (refValidate_any _ _ _ hHT.out).mono ?_; rintro e w3 ⟨rfl, hb3⟩; rw [hVV.out]; simp only [errno]
                       have hkk := hide ((hHB.out.trans (hb3.mono (by omega))))
                       have r0 := (hkk.out.cell (by exact hb)).trans hQ0.out
                       have p0 := (hkk.out.cell (by exact hb)).trans hP0.out
                       have hb43 := hide (hb4r.out.below hb3)
                       have hc4 := hb43.out.cell
                       have hf4 := hb43.out.frozen
                       have hl4 := hb43.out.lt
                       clear hb3)
          obtain ⟨wF, hwF, hgF, hkF⟩ := set5_facts hb43.out (.int .i64 0) (.int .i64 0) (.slice none 0 0) (.slice none 0 0) (.slice none 0 0)
          simp only [set5] at hwF
          rw [hwF]
          exact hR (chk_none (List.mem_of_getElem? hA.out) (by rw [hVV.out, hHD.out]; simpa using hE.out)) _ _ _ _ _ _ _ _ _ _ _ _ _ _ _ _ _ _ _ _ _ _ _ _ _ _ wF ((Kept.of_below hkk.out _).trans hkF (fun _ _ e => e)) hgF
    · have hc : Hid (chkL l = true) := chk_all (all_of_takes (by have := hV.out; rwa [show k = l.length from by omega] at this))
      have hHB := hide hB
      go_wp2_with fail
      exact hQ hc.out _ _ _ _ _ _ _ _ _ _ _ _ _ _ _ _ _ _ _ _ _ _ _ _ _ _ _ wr hHB.out
end Go.Proofs.Ytnimlcbgeiajiaa

namespace Go.Proofs.Ytnimlcbgeiajiaa
open Go.RowKit

theorem info26 : (Try.prog.info? 26).map (fun i => (i.zero, i.size, i.bytes)) = some (some (.agg #[.int .i64 0, .int .i64 0, .slice none 0 0, .slice none 0 0, .slice none 0 0]), 5, 88) := by kernel_rfl
theorem row49 : RowTy Try.prog 49 26 5 := rowTy_of Try.underlying49 info26 rfl (by omega) (by omega)

/-- A machine's data, and the three slices that hold it. -/
structure M3 where
  ac : List Bool
  lf : List Nat
  t : List (List (List Nat))
  v1 : Value
  v2 : Value
  v3 : Value
def M3.cells (L : Nat) (r : M3) : List Value := [.int .i64 (L : Int), .int .i64 (r.ac.length : Int), r.v1, r.v2, r.v3]
def M3.Own (w : World) (base L : Nat) (r : M3) : Prop :=
  w.ownsRow base 3 1 r.v1 (accIdx r.ac).length ((accIdx r.ac).map encN) ∧ w.ownsRow base 36 2 r.v2 (plLv r.lf).length ((plLv r.lf).flatMap lvCells) ∧ w.ownsRow base 59 4 r.v3 (plBr L r.ac.length r.t).length ((plBr L r.ac.length r.t).flatMap brCells)
theorem M3.Own.ta {w : World} {base L : Nat} {r : M3} (h : r.Own w base L) : OwnTA w base (.agg #[.int .i64 (L : Int), .int .i64 (r.ac.length : Int), r.v1, r.v2, r.v3]) L r.ac.length (accIdx r.ac) (plLv r.lf) (plBr L r.ac.length r.t) := ⟨_, _, _, rfl, h.1, h.2.1, h.2.2⟩
theorem M3.Own.keep {w w' : World} {base L : Nat} {r : M3} (h : r.Own w base L) {X : Nat → Prop} (hk : Kept w w' X) (hX : ∀ g e cs, X g → e ≠ 26 → ¬ Blk w g e cs) : r.Own w' base L :=
  ⟨own_ty hk h.1 fun g cs hg => hX g 3 cs hg (by decide), own_ty hk h.2.1 fun g cs hg => hX g 36 cs hg (by decide), own_ty hk h.2.2 fun g cs hg => hX g 59 cs hg (by decide)⟩
theorem M3.Own.weak {w : World} {base base' L : Nat} {r : M3} (h : r.Own w base L) (hb : base' ≤ base) : r.Own w base' L := ⟨own_weak h.1 hb, own_weak h.2.1 hb, own_weak h.2.2 hb⟩

/-- The machines in memory. -/
structure MinsW (w : World) (base L : Nat) (v : Value) (rs : List M3) : Prop where
  row : w.ownsRow base 26 5 v rs.length (rs.flatMap (M3.cells L))
  own : ∀ r ∈ rs, r.Own w base L
/-- What they are. -/
structure MinsP (L : Nat) (l : List TA) (rs : List M3) : Prop where
  len : rs.length = l.length
  at_ : ∀ (i : Nat) (a : TA) (r : M3), l[i]? = some a → rs[i]? = some r → MOK L r.ac r.lf r.t ∧ r.ac.length ≤ 64 ∧ Canon L r.ac.length (mleaf r.lf) (mbr r.t) (macc r.ac) a.lang
theorem MinsW.keep {w w' : World} {base L : Nat} {v : Value} {rs : List M3} (h : MinsW w base L v rs) {X : Nat → Prop} (hk : Kept w w' X) (hv : ∀ g, v.ownBlock = some g → ¬ X g) (hX : ∀ g e cs, X g → e ≠ 26 → ¬ Blk w g e cs) : MinsW w' base L v rs :=
  ⟨hk.ownsRow h.row hv, fun r hr => (h.own r hr).keep hk hX⟩
theorem MinsW.below {w w' : World} {base L : Nat} {v : Value} {rs : List M3} (h : MinsW w base L v rs) (hb : Below w.heap.size w w') : MinsW w' base L v rs :=
  h.keep (Kept.of_below hb (fun _ => False)) (fun _ _ e => e) (fun _ _ _ e => e.elim)
theorem MinsP.snoc {L : Nat} {l : List TA} {rs : List M3} {a : TA} {r : M3} (h : MinsP L l rs) (h1 : MOK L r.ac r.lf r.t) (h2 : r.ac.length ≤ 64) (h3 : Canon L r.ac.length (mleaf r.lf) (mbr r.t) (macc r.ac) a.lang) : MinsP L (l ++ [a]) (rs ++ [r]) := by
  refine ⟨by simp [h.len], fun i b q hb hq => ?_⟩
  by_cases hi : i < l.length
  · rw [List.getElem?_append_left hi] at hb
    rw [List.getElem?_append_left (by rw [h.len]; exact hi)] at hq
    exact h.at_ i b q hb hq
  · have hi2 := lt_of_get hb
    simp at hi2
    obtain rfl : i = l.length := by omega
    rw [← h.len] at hq
    simp at hb hq
    subst hb hq
    exact ⟨h1, h2, h3⟩

/-- More than 64 states, or an automaton that is large. -/
def JLarge (l : List TA) : Prop := (∃ a ∈ l, a.Large) ∨ ∃ k s, SzR (l.take k) s ∧ 64 < s

set_option maxHeartbeats 16000000 in
set_option maxRecDepth 100000 in
theorem rj_mins {w : World} {g4 c L : Nat} {A : Option Addr} {l : List TA} (h : TAs w w.heap.size A l) (hl6 : l.length ≤ 1000) (b4 : Blk w g4 26 #[.int .i64 0, .int .i64 0, .slice none 0 0, .slice none 0 0, .slice none 0 0]) (hck : chkL l = true) (hL : ∀ a ∈ l, a.letters.toNat = L)
    {u1 u2 u3 u5 u6 u10 u11 u12 u13 u14 u15 u16 u17 u18 u19 u20 u21 u22 u23 u24 u25 u26 u27 u28 u29 u30 u31 u32 u33 u34 u35 u36 u37 u38 u39 u40 u41 u42 u43 u44 u45 u46 u47 u48 u49 u50 u51 u52 u53 u54 u55 u56 u57 u58 u59 u60 u61 u62 u63 u64 u65 u66 u67 u68 u69 u70 u71 u72 u73 u74 u75 u76 u77 u78 u79 u80 u81 u82 u83 u84 u85 u86 u87 u88 u89 u90 u91 : Value}
    {Q : Exit → Act → World → Prop}
    (hQ : ∀ (x5 x10 x11 x43 x44 x45 x46 x47 x48 x49 x50 x51 x52 x53 x54 x55 x56 x57 x58 x59 x60 x61 x62 x63 x64 x65 x66 x67 x68 x69 x70 x71 : Value) (s c' : Nat) (A' : Option Addr) (rs : List M3) (w' : World), Below w.heap.size w w' → MinsW w' w.heap.size L (.slice A' rs.length c') rs → MinsP L l rs → (∀ a ∈ l, ¬ a.Large) → SzR l s → s ≤ 64 → Q (.exit 2) ⟨List.toArray ((.slice A l.length c) :: u1 :: u2 :: u3 :: (.pointer (some ⟨g4, 0, none⟩)) :: x5 :: u6 :: (.int .i64 (s : Int)) :: (.slice A' rs.length c') :: (.int .i64 (l.length : Int)) :: x10 :: x11 :: u12 :: u13 :: u14 :: u15 :: u16 :: u17 :: u18 :: u19 :: u20 :: u21 :: 
      u22 :: u23 :: u24 :: u25 :: u26 :: u27 :: u28 :: u29 :: u30 :: u31 :: u32 :: u33 :: u34 :: u35 :: u36 :: u37 :: u38 :: u39 :: u40 :: u41 :: u42 :: x43 :: x44 :: x45 :: x46 :: x47 :: x48 :: x49 :: x50 :: x51 :: x52 :: x53 :: x54 :: x55 :: x56 :: x57 :: x58 :: 
      x59 :: x60 :: x61 :: x62 :: x63 :: x64 :: x65 :: x66 :: x67 :: x68 :: x69 :: x70 :: x71 :: u72 :: u73 :: u74 :: u75 :: u76 :: u77 :: u78 :: u79 :: u80 :: u81 :: u82 :: u83 :: u84 :: u85 :: u86 :: u87 :: u88 :: u89 :: u90 :: u91 :: []), []⟩ w')
    (hR : JLarge l → ∀ (x7 x8 x9 x10 x11 x43 x44 x45 x46 x47 x48 x49 x50 x51 x52 x53 x54 x55 x56 x57 x58 x59 x60 x61 x62 x63 x64 x65 x66 x67 x68 x69 x70 x71 : Value) (w' : World), Kept w w' (fun k => k = g4) → Blk w' g4 26 #[.int .i64 0, .int .i64 0, .slice none 0 0, .slice none 0 0, .slice none 0 0] → Q .ret ⟨List.toArray ((.slice A l.length c) :: u1 :: u2 :: u3 :: (.pointer (some ⟨g4, 0, none⟩)) :: (.int .i64 4) :: u6 :: x7 :: x8 :: x9 :: x10 :: x11 :: u12 :: u13 :: u14 :: u15 :: u16 :: u17 :: u18 :: u19 :: u20 :: u21 :: u22 :: u23 :: u24 :: u25 :: u26 :: u27 :: u28 :: u29 :: 
      u30 :: u31 :: u32 :: u33 :: u34 :: u35 :: u36 :: u37 :: u38 :: u39 :: u40 :: u41 :: u42 :: x43 :: x44 :: x45 :: x46 :: x47 :: x48 :: x49 :: x50 :: x51 :: x52 :: x53 :: x54 :: x55 :: x56 :: x57 :: x58 :: x59 :: x60 :: x61 :: x62 :: x63 :: x64 :: x65 :: x66 :: 
      x67 :: x68 :: x69 :: x70 :: x71 :: u72 :: u73 :: u74 :: u75 :: u76 :: u77 :: u78 :: u79 :: u80 :: u81 :: u82 :: u83 :: u84 :: u85 :: u86 :: u87 :: u88 :: u89 :: u90 :: u91 :: []), []⟩ w') :
    (Code.loop (loopBody Try.f63 1)).wp Try.prog Q ⟨List.toArray ((.slice A l.length c) :: u1 :: u2 :: u3 :: (.pointer (some ⟨g4, 0, none⟩)) :: u5 :: u6 :: (.int .i64 1) :: (.slice none 0 0) :: (.int .i64 0) :: u10 :: u11 :: u12 :: u13 :: u14 :: u15 :: u16 :: u17 :: u18 :: u19 :: u20 :: u21 :: u22 :: u23 :: u24 :: u25 :: u26 :: 
      u27 :: u28 :: u29 :: u30 :: u31 :: u32 :: u33 :: u34 :: u35 :: u36 :: u37 :: u38 :: u39 :: u40 :: u41 :: u42 :: u43 :: u44 :: u45 :: u46 :: u47 :: u48 :: u49 :: u50 :: u51 :: u52 :: u53 :: u54 :: u55 :: u56 :: u57 :: u58 :: u59 :: u60 :: u61 :: u62 :: u63 :: 
      u64 :: u65 :: u66 :: u67 :: u68 :: u69 :: u70 :: u71 :: u72 :: u73 :: u74 :: u75 :: u76 :: u77 :: u78 :: u79 :: u80 :: u81 :: u82 :: u83 :: u84 :: u85 :: u86 :: u87 :: u88 :: u89 :: u90 :: u91 :: []), []⟩ w := by
  conv => arg 2; arg 1; whnf
  have hn := h.1
  have hB4 := hide b4
  clear b4
  go_loopw [7, 8, 9] (fun ss vv ii wr => ∃ (k s c' : Nat) (A' : Option Addr) (rs : List M3), ss = .int .i64 (s : Int) ∧ vv = .slice A' rs.length c' ∧ ii = .int .i64 (k : Int) ∧ k ≤ l.length ∧ Below w.heap.size w wr ∧ Hid (MinsW wr w.heap.size L (.slice A' rs.length c') rs) ∧ Hid (MinsP L (l.take k) rs) ∧ Hid (∀ a ∈ l.take k, ¬ a.Large) ∧ Hid (SzR (l.take k) s) ∧ s ≤ 64) (fun _ _ ii _ => l.length - (intOf ii).toNat)
  case atStart => exact ⟨0, 1, 0, none, [], rfl, rfl, rfl, Nat.zero_le _, Below.refl _ _, ⟨own_nil, fun r hr => by simp at hr⟩, ⟨by simp, fun i a r h => by simp at h⟩, fun a ha => by simp at ha, SzR.nil, by omega⟩
  case round =>
    obtain ⟨k, s, c', A', rs, rfl, rfl, rfl, hk, hB, hMW, hMP, hNL, hSZ, hs64⟩ := hrel
    by_cases hlt : k < l.length
    · obtain ⟨b, off, a, A1, c1, A2, c2, A3, c3, rfl, hb, ha, q0, q1, q2, q3, q4, s1, s2, s3⟩ := h.at hlt
      have q0' := (hB.cell (by exact hb)).trans q0
      have q1' := (hB.cell (by exact hb)).trans q1
      have q2' := (hB.cell (by exact hb)).trans q2
      have q3' := (hB.cell (by exact hb)).trans q3
      have q4' := (hB.cell (by exact hb)).trans q4
      have hT : IsTA wr wr.heap.size (.agg #[.int .i64 a.letters, .int .i64 a.states, .slice A1 a.accept.length c1, .slice A2 a.leaves.length c2, .slice A3 a.branches.length c3]) a :=
        IsTA.keep ⟨A1, c1, A2, c2, A3, c3, rfl, s1, s2, s3⟩ (fun _ hp => hB.cell hp) hB.size
      have hHT := hide hT
      have hHB := hide hB
      have hzB := hB.size
      have hA := hide ha
      have hmem := List.mem_of_getElem? ha
      have hval := hide (chkL_at hck hmem).1
      have hLa := hide (hL a hmem)
      have hb4r := hide (hB4.out.below hB)
      have hl4w := hB4.out.lt
      have hrl : rs.length ≤ 1000 := by have := hMP.out.len; rw [this, List.length_take]; omega
      have htk : l.take (k + 1) = l.take k ++ [a] := by rw [List.take_add_one, ha]; rfl
      have hTK := hide htk
      clear q0 q1 q2 q3 q4 s1 s2 s3 hT ha hB htk hmem
      go_wp2_with fail
      refine Calls.ret (refmin_any _ a wr hHT.out hval.out) ?_
      rintro v w5 ⟨hb5, hres⟩
      have hb45 := hide (hb4r.out.below hb5)
      have hb05 := hide (hHB.out.trans (hb5.mono hzB))
      have hz5 := hb5.size
      have hMW5 := hide (hMW.out.below hb5)
      rcases hres with ⟨hlg, rfl⟩ | ⟨hnl, ac, lf, t, va, rfl, hok, hle, hcan, hown⟩
      · have hLG := hide (show JLarge l from .inl ⟨a, List.mem_of_getElem? hA.out, hlg⟩)
        clear hlg
        unfold zeroTA
        obtain ⟨w8, hw8, hb8, hB8, hk8⟩ := box_blk w5 #[.int .i64 0, .int .i64 0, .slice none 0 0, .slice none 0 0, .slice none 0 0] 26
        have hc8 := hB8.cell
        have hf8 := hB8.frozen
        have hl8 := hB8.lt
        obtain ⟨w9, hw9, hg9, hk9⟩ := set5_facts hB8 (.int .i64 0) (.int .i64 0) (.slice none 0 0) (.slice none 0 0) (.slice none 0 0)
        have hb59 : Below w5.heap.size w5 w9 := hb8.trans (hk9.below hb8.size fun _ hb e => by omega)
        have hb09 := hide (hb05.out.trans (hb59.mono (by omega)))
        have hb49 := hb45.out.below hb59
        have hc4 := hb49.cell
        have hf4 := hb49.frozen
        have hl4 := hb49.lt
        have hb49H := hide hb49
        have hw9' := hw9
        simp only [set5] at hw9'
        clear hw9 hb5 hb8 hb59 hb49
        go_wp2_with fail
        obtain ⟨wF, hwF, hgF, hkF⟩ := set5_facts hb49H.out (.int .i64 0) (.int .i64 0) (.slice none 0 0) (.slice none 0 0) (.slice none 0 0)
        simp only [set5] at hwF
        rw [hwF]
        exact hR hLG.out _ _ _ _ _ _ _ _ _ _ _ _ _ _ _ _ _ _ _ _ _ _ _ _ _ _ _ _ _ _ _ _ _ _ wF ((Kept.of_below hb09.out _).trans hkF (fun _ _ e => e)) hgF
      · obtain ⟨v1, v2, v3, rfl, ho1, ho2, ho3⟩ := hown
        obtain ⟨B1, d1, rfl⟩ := slice_of_own ho1
        obtain ⟨B2, d2, rfl⟩ := slice_of_own ho2
        obtain ⟨B3, d3, rfl⟩ := slice_of_own ho3
        rw [hLa.out] at hok hcan ho3
        simp only [hLa.out]
        obtain ⟨w6, hw6, hb6, hB6, hk6⟩ := box_blk w5 #[.int .i64 (L : Int), .int .i64 (ac.length : Int), .slice B1 (accIdx ac).length d1, .slice B2 (plLv lf).length d2, .slice B3 (plBr L ac.length t).length d3] 26
        have hc6 := hB6.cell
        have hl6' := hB6.lt
        have hCN : Hid (CanN a ac.length) := ⟨_, _, _, by rw [hLa.out]; exact hcan⟩
        have hR6 := hide (show M3.Own w6 w.heap.size L ⟨ac, lf, t, .slice B1 (accIdx ac).length d1, .slice B2 (plLv lf).length d2, .slice B3 (plBr L ac.length t).length d3⟩ from (M3.Own.weak (show M3.Own w5 wr.heap.size L ⟨ac, lf, t, _, _, _⟩ from ⟨ho1, ho2, ho3⟩) hzB).keep hk6 (fun _ _ _ e => e.elim))
        have hMW6 := hide (hMW5.out.below hb6)
        have hb46 := hide (hb45.out.below hb6)
        have hb06 := hide (hb05.out.trans (hb6.mono (by omega)))
        have hz6 := hb6.size
        have hNL' : Hid (∀ b ∈ l.take (k + 1), ¬ b.Large) := by
          intro b hb
          rw [hTK.out, List.mem_append, List.mem_singleton] at hb
          rcases hb with hb | rfl
          · exact hNL.out b hb
          · exact hnl
        have hZS := hSZ.out.snoc hCN.out
        rw [← hTK.out] at hZS
        have hZZ := hide hZS
        have hMP' := hide (show MinsP L (l.take (k + 1)) (rs ++ [⟨ac, lf, t, .slice B1 (accIdx ac).length d1, .slice B2 (plLv lf).length d2, .slice B3 (plBr L ac.length t).length d3⟩]) from by
          rw [hTK.out]
          exact hMP.out.snoc hok hle hcan)
        have hmul : s * ac.length ≤ 64 * 64 := Nat.mul_le_mul hs64 hle
        have hM0 : (0 : Int) ≤ (s : Int) * (ac.length : Int) := by rw [← Int.natCast_mul]; omega
        have hM1 : (s : Int) * (ac.length : Int) ≤ 4096 := by rw [← Int.natCast_mul]; omega
        clear hok hcan hnl ho1 ho2 ho3 hb5 hb6 hB6 hZS
        by_cases hs : s * ac.length ≤ 64
        · have hp3 : ¬ (64 : Int) < (s : Int) * (ac.length : Int) := by rw [← Int.natCast_mul]; omega
          go_wp2_with (at_builtin; refine wpList_app_new (w := w6) row49 rfl _ _ rfl w.heap.size (.slice A' rs.length c') rs.length _ rfl hMW6.out.row [.int .i64 (L : Int), .int .i64 (ac.length : Int), .slice B1 (accIdx ac).length d1, .slice B2 (plLv lf).length d2, .slice B3 (plBr L ac.length t).length d3] 1 rfl rfl (by simp [Value.oneCell']) (by omega) hb06.out.size ?_; intro g7 cap7 w7 hown7 hk7 hmv7 hg7
                       have hb07 := hide (hb06.out.trans (hk7.below hb06.out.size (fun b hb e => by have := own_base hMW6.out.row e; omega)))
                       have hne7 : ∀ g e cs, (Value.slice A' rs.length c').ownBlock = some g → e ≠ 26 → ¬ Blk w6 g e cs := fun g e cs hg he hb => by
                         obtain ⟨cs', hcs⟩ := own_blk hMW6.out.row hg
                         exact hcs.ne_ hb (fun h => he h.symm) rfl
                       have hMW7 := hide (show MinsW w7 w.heap.size L (.slice (some ⟨g7, 0, none⟩) (rs.length + 1) cap7) (rs ++ [⟨ac, lf, t, .slice B1 (accIdx ac).length d1, .slice B2 (plLv lf).length d2, .slice B3 (plBr L ac.length t).length d3⟩]) from
                         ⟨by
                           rw [List.flatMap_append, List.length_append]
                           exact hown7, fun r hr => by
                           rcases List.mem_append.1 hr with hr | hr
                           · exact (hMW6.out.own r hr).keep hk7 hne7
                           · rw [List.mem_singleton] at hr
                             subst hr
                             exact hR6.out.keep hk7 hne7⟩)
                       clear hown7 hk7 hmv7 hg7 hne7)
          exact ⟨⟨k + 1, s * ac.length, cap7, some ⟨g7, 0, none⟩, rs ++ [⟨ac, lf, t, .slice B1 (accIdx ac).length d1, .slice B2 (plLv lf).length d2, .slice B3 (plBr L ac.length t).length d3⟩], by rw [Int.natCast_mul], by simp, by go_num, by omega, hb07.out, by
            rw [List.length_append]
            exact hMW7.out, hMP', hNL', by have := hZZ.out; rwa [Nat.min_eq_left (by omega)] at this, hs⟩, by simp [intOf]; omega⟩
        · have hp3 : (64 : Int) < (s : Int) * (ac.length : Int) := by rw [← Int.natCast_mul]; omega
          have hc4 := hb46.out.cell
          have hf4 := hb46.out.frozen
          have hl4 := hb46.out.lt
          have hLG := hide (show JLarge l from .inr ⟨k + 1, _, hZZ.out, by omega⟩)
          go_wp2_with fail
          obtain ⟨wF, hwF, hgF, hkF⟩ := set5_facts hb46.out (.int .i64 0) (.int .i64 0) (.slice none 0 0) (.slice none 0 0) (.slice none 0 0)
          simp only [set5] at hwF
          rw [hwF]
          exact hR hLG.out _ _ _ _ _ _ _ _ _ _ _ _ _ _ _ _ _ _ _ _ _ _ _ _ _ _ _ _ _ _ _ _ _ _ wF ((Kept.of_below hb06.out _).trans hkF (fun _ _ e => e)) hgF
    · obtain rfl : k = l.length := by omega
      have hMPo := hide (show MinsP L l rs from by have := hMP.out; rwa [List.take_length] at this)
      have hNLo := hide (show ∀ a ∈ l, ¬ a.Large from by have := hNL.out; rwa [List.take_length] at this)
      have hSZo := hide (show SzR l s from by have := hSZ.out; rwa [List.take_length] at this)
      have hHB := hide hB
      clear hB
      go_wp2_with fail
      exact hQ _ _ _ _ _ _ _ _ _ _ _ _ _ _ _ _ _ _ _ _ _ _ _ _ _ _ _ _ _ _ _ _ s c' A' rs wr hHB.out hMW.out hMPo.out hNLo.out hSZo.out hs64
end Go.Proofs.Ytnimlcbgeiajiaa

namespace Go.Proofs.Ytnimlcbgeiajiaa
open Go.RowKit

theorem szN_ge : ∀ (ns : List Nat) (s : Nat), (∀ n ∈ ns, 1 ≤ n) → min s 65 ≤ ns.foldl (fun s n => min (s * n) 65) s
  | [], s, _ => Nat.min_le_left _ _
  | n :: ns, s, h => by
    have h1 := szN_ge ns (min (s * n) 65) fun m hm => h m (List.mem_cons_of_mem _ hm)
    have h2 : s ≤ s * n := Nat.le_mul_of_pos_right _ (h n List.mem_cons_self)
    rw [List.foldl_cons]
    omega
theorem CanN.pos {a : TA} {n : Nat} (h : CanN a n) (hL : 1 ≤ a.letters.toNat) : 1 ≤ n := by
  obtain ⟨_, _, _, h⟩ := h
  have := h.isM.leaf_lt 0 (by omega)
  omega
theorem SzR.prefix {l : List TA} {s s' k : Nat} (h : SzR l s) (hL : ∀ a ∈ l, 1 ≤ a.letters.toNat) (h' : SzR (l.take k) s') (hs : s ≤ 64) : s' ≤ 64 := by
  obtain ⟨ns, h1, h2, rfl⟩ := h
  have hat : ∀ (i : Nat) (a : TA) (n : Nat), (l.take k)[i]? = some a → (ns.take k)[i]? = some n → CanN a n := by
    intro i a n ha hn
    rw [List.getElem?_take] at ha hn
    split at ha
    · rename_i hi
      rw [if_pos hi] at hn
      exact h2 i a n ha hn
    · cases ha
  have hk : SzR (l.take k) (szN (ns.take k)) := ⟨ns.take k, by simp [h1], hat, rfl⟩
  have hpos : ∀ n ∈ ns, 1 ≤ n := fun n hn => by
    obtain ⟨i, hi⟩ := List.mem_iff_getElem?.1 hn
    obtain ⟨a, ha⟩ := get_lt (l := l) (i := i) (by have := lt_of_get hi; omega)
    exact (h2 i a n ha hi).pos (hL a (List.mem_of_getElem? ha))
  have e : szN ns = (ns.drop k).foldl (fun s n => min (s * n) 65) (szN (ns.take k)) := by
    unfold szN
    rw [← List.foldl_append, List.take_append_drop]
  have := szN_ge (ns.drop k) (szN (ns.take k)) fun n hn => hpos n (List.mem_of_mem_drop hn)
  have e2 := hk.eq h'
  omega
theorem flat5 : ∀ (rs : List M3) (L k j : Nat) (r : M3), rs[k]? = some r → j < 5 → (rs.flatMap (M3.cells L))[k * 5 + j]? = (r.cells L)[j]?
  | [], _, _, _, _, h, _ => by simp at h
  | c :: rs, L, 0, j, r, h, hj => by
    simp at h
    subst h
    rw [List.flatMap_cons, List.getElem?_append_left (by simp [M3.cells]; omega), Nat.zero_mul, Nat.zero_add]
  | c :: rs, L, k + 1, j, r, h, hj => by
    simp at h
    rw [List.flatMap_cons, List.getElem?_append_right (by simp [M3.cells]; omega), ← flat5 rs L k j r h hj, show (k + 1) * 5 + j - (c.cells L).length = k * 5 + j from by simp [M3.cells]; omega]
theorem MinsW.cell {w : World} {base L : Nat} {v : Value} {rs : List M3} (h : MinsW w base L v rs) {k : Nat} {r : M3} (hk : rs[k]? = some r) :
    ∃ g cap, v = .slice (some ⟨g, 0, none⟩) rs.length cap ∧ w.cell? ⟨g, k * 5, none⟩ = some (.int .i64 (L : Int)) ∧ w.cell? ⟨g, k * 5 + 1, none⟩ = some (.int .i64 (r.ac.length : Int)) ∧ w.cell? ⟨g, k * 5 + 2, none⟩ = some r.v1 ∧ w.cell? ⟨g, k * 5 + 3, none⟩ = some r.v2 ∧ w.cell? ⟨g, k * 5 + 4, none⟩ = some r.v3 := by
  obtain ⟨hl, hx⟩ := h.row
  have hkl := lt_of_get hk
  rcases hx with ⟨_, h0⟩ | ⟨g, cap, cur, rfl, hb, hh, hc, hm, hs, ht⟩
  · omega
  · have get : ∀ j, j < 5 → w.cell? ⟨g, k * 5 + j, none⟩ = (r.cells L)[j]? := fun j hj => by
      rw [cell_of_row w g (k * 5 + j) cur 26 (0, 0) hh, ← flat5 rs L k j r hk hj, ← ht, List.getElem?_take, if_pos (by omega)]
      simp
    exact ⟨g, cap, rfl, get 0 (by omega), get 1 (by omega), get 2 (by omega), get 3 (by omega), get 4 (by omega)⟩
theorem MinsW.weak {w : World} {base base' L : Nat} {v : Value} {rs : List M3} (h : MinsW w base L v rs) (hb : base' ≤ base) : MinsW w base' L v rs :=
  ⟨own_weak h.row hb, fun r hr => (h.own r hr).weak hb⟩

set_option maxHeartbeats 16000000 in
set_option maxRecDepth 100000 in
theorem rj_fold {wB w : World} {g12 L way c' base s : Nat} {A' : Option Addr} {j : Bool → Bool → Bool} {l : List TA} {rs : List M3} {r0 : M3} {a0 : TA} (hway : way = 1 ∨ way = 2 ∨ way = 3) (hj : ∀ x y, wayJ way x y = j x y)
    (hBw : Below wB.heap.size wB w) (hg12 : wB.heap.size ≤ g12) (hbase : base ≤ wB.heap.size) (hMW : MinsW w base L (.slice A' rs.length c') rs) (hlist : ∀ g, (Value.slice A' rs.length c').ownBlock = some g → g ≠ g12) (hMP : MinsP L l rs) (hSZ : SzR l s) (hs64 : s ≤ 64) (hLL : ∀ a ∈ l, a.letters.toNat = L) (hL8 : L ≤ 8) (hL1 : 1 ≤ L) (hl6 : l.length ≤ 1000)
    (hr0 : rs[0]? = some r0) (ha0 : l[0]? = some a0) (b12 : Blk w g12 26 (r0.cells L).toArray)
    {u0 u2 u3 u4 u5 u6 u7 u9 u10 u11 u14 u15 u16 u17 u18 u19 u20 u21 u22 u23 u24 u25 u26 u27 u28 u29 u30 u31 u32 u33 u34 u35 u36 u37 u38 u39 u40 u41 u42 u43 u44 u45 u46 u47 u48 u49 u50 u51 u52 u53 u54 u55 u56 u57 u58 u59 u60 u61 u62 u63 u64 u65 u66 u67 u68 u69 u70 u71 u72 u73 u74 u75 u76 u77 u78 u79 u80 u81 u82 u83 u84 u85 u86 u87 u88 u89 u90 u91 : Value}
    {Q : Exit → Act → World → Prop} (hN : Reg.NoQ Q)
    (hQ : ∀ (x75 x76 x77 x78 x79 x80 x81 x82 x83 x84 x85 x86 x87 x88 x89 x90 : Value) (r : M3) (w' : World), Below wB.heap.size wB w' → Blk w' g12 26 (r.cells L).toArray → r.Own w' base L → MOK L r.ac r.lf r.t → r.ac.length ≤ 64 → Canon L r.ac.length (mleaf r.lf) (mbr r.t) (macc r.ac) (langJ j l) → Q (.exit 4) ⟨List.toArray (u0 :: (.int .i64 (way : Int)) :: u2 :: u3 :: u4 :: u5 :: u6 :: u7 :: (.slice A' rs.length c') :: u9 :: u10 :: u11 :: (.pointer (some ⟨g12, 0, none⟩)) :: (.int .i64 (rs.length : Int)) :: u14 :: u15 :: u16 :: u17 :: u18 :: u19 :: u20 :: u21 :: u22 :: u23 :: u24 :: 
      u25 :: u26 :: u27 :: u28 :: u29 :: u30 :: u31 :: u32 :: u33 :: u34 :: u35 :: u36 :: u37 :: u38 :: u39 :: u40 :: u41 :: u42 :: u43 :: u44 :: u45 :: u46 :: u47 :: u48 :: u49 :: u50 :: u51 :: u52 :: u53 :: u54 :: u55 :: u56 :: u57 :: u58 :: u59 :: u60 :: u61 :: 
      u62 :: u63 :: u64 :: u65 :: u66 :: u67 :: u68 :: u69 :: u70 :: u71 :: u72 :: u73 :: u74 :: x75 :: x76 :: x77 :: x78 :: x79 :: x80 :: x81 :: x82 :: x83 :: x84 :: x85 :: x86 :: x87 :: x88 :: x89 :: x90 :: u91 :: []), []⟩ w') :
    (Code.loop (loopBody Try.f63 2)).wp Try.prog Q ⟨List.toArray (u0 :: (.int .i64 (way : Int)) :: u2 :: u3 :: u4 :: u5 :: u6 :: u7 :: (.slice A' rs.length c') :: u9 :: u10 :: u11 :: (.pointer (some ⟨g12, 0, none⟩)) :: (.int .i64 1) :: u14 :: u15 :: u16 :: u17 :: u18 :: u19 :: u20 :: u21 :: u22 :: u23 :: u24 :: u25 :: u26 :: 
      u27 :: u28 :: u29 :: u30 :: u31 :: u32 :: u33 :: u34 :: u35 :: u36 :: u37 :: u38 :: u39 :: u40 :: u41 :: u42 :: u43 :: u44 :: u45 :: u46 :: u47 :: u48 :: u49 :: u50 :: u51 :: u52 :: u53 :: u54 :: u55 :: u56 :: u57 :: u58 :: u59 :: u60 :: u61 :: u62 :: u63 :: 
      u64 :: u65 :: u66 :: u67 :: u68 :: u69 :: u70 :: u71 :: u72 :: u73 :: u74 :: u75 :: u76 :: u77 :: u78 :: u79 :: u80 :: u81 :: u82 :: u83 :: u84 :: u85 :: u86 :: u87 :: u88 :: u89 :: u90 :: u91 :: []), []⟩ w := by
  conv => arg 2; arg 1; whnf
  have hlen1 : rs.length ≤ l.length := Nat.le_of_eq hMP.len
  have hlen2 : l.length ≤ rs.length := Nat.le_of_eq hMP.len.symm
  have hpos0 := lt_of_get ha0
  have hWH := hide hway
  have hJH := hide hj
  have hLLH := hide hLL
  have hPP := hide hMP
  have hSS := hide hSZ
  have hL1a : ∀ a ∈ l, 1 ≤ a.letters.toNat := fun a ha => by rw [hLL a ha]; exact hL1
  have hL1H := hide hL1a
  have hinit : MOK L r0.ac r0.lf r0.t ∧ SzR (l.take 1) r0.ac.length ∧ r0.ac.length ≤ 64 ∧ Canon L r0.ac.length (mleaf r0.lf) (mbr r0.t) (macc r0.ac) (langJ j (l.take 1)) := by
    obtain ⟨h1, h2, h3⟩ := hMP.at_ 0 a0 r0 ha0 hr0
    have e : l.take 1 = [a0] := by
      cases l with
      | nil => simp at ha0
      | cons x xs => simp at ha0; simp [ha0]
    have hcn : CanN a0 r0.ac.length := ⟨_, _, _, by rw [hLL a0 (List.mem_of_getElem? ha0)]; exact h3⟩
    refine ⟨h1, ?_, h2, ?_⟩
    · have := SzR.nil.snoc hcn
      rw [Nat.one_mul, Nat.min_eq_left (by omega)] at this
      rw [e]
      exact this
    · rw [e]
      exact h3
  have hown0 := hMW.own r0 (List.mem_of_getElem? hr0)
  clear hway hj hLL hMP hSZ hL1a
  go_loopw [13] (fun ii wr => ∃ (i si : Nat) (r : M3), ii = .int .i64 (i : Int) ∧ 1 ≤ i ∧ i ≤ rs.length ∧ Below wB.heap.size wB wr ∧ Hid (MinsW wr base L (.slice A' rs.length c') rs) ∧ Hid (Blk wr g12 26 (r.cells L).toArray) ∧ Hid (r.Own wr base L) ∧ Hid (MOK L r.ac r.lf r.t) ∧ Hid (SzR (l.take i) si) ∧ r.ac.length ≤ si ∧ si ≤ 64 ∧ Hid (Canon L r.ac.length (mleaf r.lf) (mbr r.t) (macc r.ac) (langJ j (l.take i)))) (fun ii _ => rs.length - (intOf ii).toNat)
  case atStart => exact ⟨1, _, r0, rfl, Nat.le_refl _, by omega, hBw, hMW, b12, hown0, hinit.1, hinit.2.1, Nat.le_refl _, hinit.2.2.1, hinit.2.2.2⟩
  case round =>
    obtain ⟨i, si, ⟨ac, lf, t, x1, x2, x3⟩, rfl, hi1, hi, hB, hMr, hb12, hOw, hOK, hSi, hni, hsi, hCan⟩ := hrel
    simp only [M3.cells] at hb12 hni hOK hCan
    by_cases hlt : i < rs.length
    · obtain ⟨⟨acm, lfm, tm, y1, y2, y3⟩, hm⟩ := get_lt hlt
      obtain ⟨a, ha⟩ := get_lt (l := l) (i := i) (by omega)
      obtain ⟨hokm, hlem, hcanm⟩ := hPP.out.at_ i a _ ha hm
      have hOwm := hide (hMr.out.own _ (List.mem_of_getElem? hm))
      obtain ⟨gl, capl, hve, q0, q1, q2, q3, q4⟩ := hMr.out.cell hm
      injection hve with hve _ hve2
      subst hve hve2
      obtain ⟨o1, o2, o3⟩ := hOw.out
      obtain ⟨p1, p2, p3⟩ := hOwm.out
      dsimp only at o1 o2 o3 p1 p2 p3 q0 q1 q2 q3 q4 hokm hlem hcanm
      obtain ⟨B1, d1, rfl⟩ := slice_of_own o1
      obtain ⟨B2, d2, rfl⟩ := slice_of_own o2
      obtain ⟨B3, d3, rfl⟩ := slice_of_own o3
      obtain ⟨D1, e1, rfl⟩ := slice_of_own p1
      obtain ⟨D2, e2, rfl⟩ := slice_of_own p2
      obtain ⟨D3, e3, rfl⟩ := slice_of_own p3
      have iA : IsTA wr.drew wr.drew.heap.size (.agg #[.int .i64 (L : Int), .int .i64 (ac.length : Int), .slice B1 (accIdx ac).length d1, .slice B2 (plLv lf).length d2, .slice B3 (plBr L ac.length t).length d3]) (plainA L ac lf t) := own_ta (show OwnTA wr base _ L ac.length (accIdx ac) (plLv lf) (plBr L ac.length t) from ⟨_, _, _, rfl, o1, o2, o3⟩)
      have iM : IsTA wr.drew wr.drew.heap.size (.agg #[.int .i64 (L : Int), .int .i64 (acm.length : Int), .slice D1 (accIdx acm).length e1, .slice D2 (plLv lfm).length e2, .slice D3 (plBr L acm.length tm).length e3]) (plainA L acm lfm tm) := own_ta (show OwnTA wr base _ L acm.length (accIdx acm) (plLv lfm) (plBr L acm.length tm) from ⟨_, _, _, rfl, p1, p2, p3⟩)
      have iAH := hide iA
      have iMH := hide iM
      have hokmH := hide hokm
      have hcanmH := hide hcanm
      have b12d : Blk wr.drew g12 26 #[.int .i64 (L : Int), .int .i64 (ac.length : Int), .slice B1 (accIdx ac).length d1, .slice B2 (plLv lf).length d2, .slice B3 (plBr L ac.length t).length d3] := hb12.out
      have hb12d := hide b12d
      have hc12 : ∀ k, wr.cell? ⟨g12, k, none⟩ = #[.int .i64 (L : Int), .int .i64 (ac.length : Int), .slice B1 (accIdx ac).length d1, .slice B2 (plLv lf).length d2, .slice B3 (plBr L ac.length t).length d3][k]? := hb12.out.cell
      have hBd : Below wB.heap.size wB wr.drew := hB.drew
      have hBH := hide hBd
      have hzB : wB.heap.size ≤ wr.drew.heap.size := hBd.size
      have hMd : Hid (MinsW wr.drew base L (.slice (some ⟨gl, 0, none⟩) rs.length c') rs) := hMr.out.below (Below.refl _ _).drew
      have htk : l.take (i + 1) = l.take i ++ [a] := by rw [List.take_add_one, ha]; rfl
      have hTK := hide htk
      have hCN : CanN a acm.length := ⟨_, _, _, by rw [hLLH.out a (List.mem_of_getElem? ha)]; exact hcanm⟩
      have hZS := hSi.out.snoc hCN
      rw [← htk] at hZS
      have hZp := hSS.out.prefix hL1H.out hZS hs64
      have hsm : si * acm.length ≤ 64 := by omega
      rw [Nat.min_eq_left (by omega)] at hZS
      have hZH := hide hZS
      have hnm : ac.length * acm.length ≤ si * acm.length := Nat.mul_le_mul_right _ hni
      have hne' : Hid (l.take i ≠ []) := fun e => by
        rcases List.take_eq_nil_iff.1 e with e | e
        · omega
        · rw [e] at hpos0
          simp at hpos0
      have hNN := hide (isM_N hCan.out.isM hcanm.isM)
      clear htk hCN hZS hZp o1 o2 o3 p1 p2 p3 iA iM hokm hcanm b12d hBd hm ha hB
      go_wp2_with fail
      refine Reg.region_cut [0, 1, 0, 0, 12, 28, 63, 0, 255, 511, 1023] [0, 2, 3, 4, 5, 1, 6, 7, 8, 9, 10] (by kernel_rfl) (by repeat (first | exact hN | refine Reg.NoQ.then ?_ | refine Reg.NoQ.inBlock ?_)) ?_
      refine Reg.rest_walkE (T := [0, 2, 3, 4, 5, 1, 6, 7, 8, 9, 10]) [0, 2, 3, 4, 5] _ rfl rfl (by kernel_rfl) ?_
      intro Qf hQf
      go_wp2_with fail
      try (rw [List.filterMap_nil]; go_wp2_with fail)
      refine Reg.rest_act' 1 _ [5] rfl (by kernel_rfl) ?_
      intro Qf hQf
      simp only [List.getElem_toArray, List.getElem_cons_succ, List.getElem_cons_zero]
      go_wp2_with (go_at_call 59; refine Calls.ret (table_any iAH.out hOK.out hL8 hL1 (by omega)) ?_; rintro v5 w5 ⟨hb5, gl5, ga5, gv5, cv5, gi5, ci5, gj5, rfl, hT5⟩)
      refine ⟨Reg.same_below hb5 [5] rfl, ?_⟩
      have iM5 := hide (iMH.out.keep (fun _ hp => hb5.cell hp) hb5.size)
      have hF5 := hide hT5.read
      have hb05 := hide hb5
      have z5 := hb5.size
      clear hb5 hT5 hc12 q0 q1 q2 q3 q4
      refine Reg.rest_walkE [6, 7, 8, 9, 10] _ rfl rfl (by kernel_rfl) ?_
      intro Qf hQf
      go_wp2_with (first
        | (go_at_call 59; refine Calls.ret (table_any iM5.out hokmH.out hL8 hL1 (by omega)) ?_; rintro v6 w6 ⟨hb6, gl6, ga6, gv6, cv6, gi6, ci6, gj6, rfl, hT6⟩
           have hF6 := hide hT6.read
           have hF56 := hide (hF5.out.below hb6)
           have hb06 := hide (hb05.out.trans (hb6.mono (by omega)))
           have z6 := hb6.size
           clear hb6 hT6)
        | (go_at_call 71; refine Calls.ret (join_any (way := way) hF56.out hF6.out hNN.out (by omega) hL8 hL1 hWH.out) ?_
           rintro v7 w7 ⟨hb7, lj, vl, vb, va, rfl, hE, hle, hF7⟩
           have hJL := hide (join_law hE hF7)
           have hb07 := hide (hb06.out.trans (hb7.mono (by omega)))
           have z7 := hb7.size
           clear hb7 hE hF7
           obtain ⟨acJ, lfJ, tJ, hokJ, hlJ, hFJ, hrun⟩ := hJL.out
           have hRun := hide hrun
           clear hrun)
        | (go_at_call 60; refine Calls.ret (canonical_any hFJ hokJ (by omega) hL8 hL1) ?_
           rintro v8 w8 ⟨hb8, ac', lf', t', hok', hle', hcan', va', vl', vb', rfl, ho1, ho2, ho3⟩
           obtain ⟨A5, d5, rfl⟩ := slice_of_own ho1
           obtain ⟨A6, d6, rfl⟩ := slice_of_own ho2
           obtain ⟨A7, d7, rfl⟩ := slice_of_own ho3
           have hb08 := hide (hb07.out.trans (hb8.mono (by omega)))
           have hB8 := hb12d.out.below hb08.out
           have hc8 := hB8.cell
           have hf8 := hB8.frozen
           have hl8 := hB8.lt
           have hB8H := hide hB8
           have hown8 := hide (show M3.Own w8 w7.heap.size L ⟨ac', lf', t', _, _, _⟩ from ⟨ho1, ho2, ho3⟩)
           have hokH := hide hok'
           have hcanH := hide hcan'
           clear hB8 hb8 ho1 ho2 ho3 hok' hcan'))
      obtain ⟨wF, hwF, hgF, hkF⟩ := set5_facts hB8H.out (.int .i64 (L : Int)) (.int .i64 (ac'.length : Int)) (.slice A5 (accIdx ac').length d5) (.slice A6 (plLv lf').length d6) (.slice A7 (plBr L ac'.length t').length d7)
      simp only [set5] at hwF
      rw [hwF] at *
      have hne8 : ∀ g e cs, g = g12 → e ≠ 26 → ¬ Blk w8 g e cs := fun g e cs eg he hb => by subst eg; exact hB8H.out.ne_ hb (fun h => he h.symm) rfl
      have hz8 := hb08.out.size
      have hst := hide (show Below wB.heap.size wB wF ∧ MinsW wF base L (.slice (some ⟨gl, 0, none⟩) rs.length c') rs ∧ M3.Own wF base L ⟨ac', lf', t', _, _, _⟩ from
        ⟨(hBH.out.trans (hb08.out.mono hzB)).trans (hkF.below (by omega) fun b hb e => by omega), (hMd.out.below hb08.out).keep hkF hlist hne8, (hown8.out.weak (by omega)).keep hkF hne8⟩)
      refine hQf _ _ (Reg.rest_end ?_)
      go_wp2_with fail
      refine ⟨⟨i + 1, si * acm.length, ⟨ac', lf', t', .slice A5 (accIdx ac').length d5, .slice A6 (plLv lf').length d6, .slice A7 (plBr L ac'.length t').length d7⟩, by go_num, by omega, by omega, hst.out.1, hst.out.2.1, hgF, hst.out.2.2, hokH.out, hZH, by dsimp only; omega, hsm, ?_⟩, by simp [intOf]; omega⟩
      refine hcanH.out.congr fun u hu => ?_
      rw [hTK.out, langJ_snoc j hne'.out, hRun.out u hu, hCan.out.lang u hu, hcanmH.out.lang u hu, hJH.out]
    · obtain rfl : i = rs.length := by omega
      have htl : l.take rs.length = l := List.take_of_length_le (by omega)
      rw [htl] at hCan
      have hBH := hide hB
      clear hB
      go_wp2_with fail
      exact hQ _ _ _ _ _ _ _ _ _ _ _ _ _ _ _ _ (⟨ac, lf, t, x1, x2, x3⟩ : M3) wr hBH.out hb12.out hOw.out hOK.out (by dsimp only; omega) hCan.out
end Go.Proofs.Ytnimlcbgeiajiaa

namespace Go.Proofs.Ytnimlcbgeiajiaa
open Go.RowKit

/-- What the reference's joined returns, by relation. -/
def JoinQ (j : Bool → Bool → Bool) (l : List TA) (e : Int) (p : TA) : Prop :=
  ((l = [] ∨ chkL l = false) ∧ e = 1 ∧ p = zTA) ∨
  (l ≠ [] ∧ chkL l = true ∧ JLarge l ∧ e = 4 ∧ p = zTA) ∨
  (l ≠ [] ∧ chkL l = true ∧ (∀ a ∈ l, ¬ a.Large) ∧ e = 0 ∧ ∃ s L ac lf t, SzR l s ∧ s ≤ 64 ∧ (∀ a ∈ l, a.letters.toNat = L) ∧ MOK L ac lf t ∧ ac.length ≤ 64 ∧ Canon L ac.length (mleaf lf) (mbr t) (macc ac) (langJ j l) ∧ p = plainA L ac lf t)
theorem JoinQ.unique {j : Bool → Bool → Bool} {l : List TA} {e e' : Int} {p p' : TA} (h : JoinQ j l e p) (h' : JoinQ j l e' p') : e = e' ∧ p = p' := by
  have hbad : chkL l = true → (∀ a ∈ l, ¬ a.Large) → JLarge l → ∀ s, SzR l s → s ≤ 64 → False := by
    intro hc hnl hj s hs hle
    rcases hj with ⟨a, ha, hl⟩ | ⟨k, s', hs', h64⟩
    · exact hnl a ha hl
    · have := hs.prefix (fun a ha => by have := (TA.valid_parts (chkL_at hc ha).1).1; omega) hs' hle
      omega
  rcases h with ⟨c, rfl, rfl⟩ | ⟨n, c, hj, rfl, rfl⟩ | ⟨n, c, hnl, rfl, s, L, ac, lf, t, hs, hs64, hL, h1, h2, h3, rfl⟩
  · rcases h' with ⟨c', rfl, rfl⟩ | ⟨n', c', -⟩ | ⟨n', c', -⟩
    · exact ⟨rfl, rfl⟩
    · rcases c with c | c
      · exact (n' c).elim
      · rw [c] at c'; cases c'
    · rcases c with c | c
      · exact (n' c).elim
      · rw [c] at c'; cases c'
  · rcases h' with ⟨c', -⟩ | ⟨n', c', hj', rfl, rfl⟩ | ⟨n', c', hnl', rfl, s', L', ac', lf', t', hs', hs64', -⟩
    · rcases c' with c' | c'
      · exact (n c').elim
      · rw [c] at c'; cases c'
    · exact ⟨rfl, rfl⟩
    · exact (hbad c hnl' hj s' hs' hs64').elim
  · rcases h' with ⟨c', -⟩ | ⟨n', c', hj', -⟩ | ⟨n', c', hnl', rfl, s', L', ac', lf', t', hs', hs64', hL', g1, g2, g3, rfl⟩
    · rcases c' with c' | c'
      · exact (n c').elim
      · rw [c] at c'; cases c'
    · exact (hbad c hnl hj' s hs hs64).elim
    · obtain ⟨a, ha⟩ := List.exists_mem_of_ne_nil l n
      have eL : L = L' := (hL a ha).symm.trans (hL' a ha)
      subst eL
      exact ⟨rfl, (plain_same h1 g1 h3 g3 (fun _ _ => rfl)).symm⟩
theorem JoinR.rel {w : World} {base : Nat} {j : Bool → Bool → Bool} {l : List TA} {r : Value} (h : JoinR w base j l r) : ∃ v e p, r = .tuple #[v, .int .i64 e] ∧ JoinQ j l e p ∧ IsTA w w.heap.size v p := by
  rcases h with ⟨c, rfl⟩ | ⟨n, c, hj, rfl⟩ | ⟨n, c, hnl, s, v, L, ac, lf, t, hs, hs64, rfl, hL, hown, h1, h2, h3⟩
  · exact ⟨_, _, _, rfl, .inl ⟨c, rfl, rfl⟩, zero_ta _⟩
  · refine ⟨_, _, _, rfl, .inr (.inl ⟨n, c, ?_, rfl, rfl⟩), zero_ta _⟩
    rcases hj with hj | ⟨-, s, hs, h64⟩
    · exact .inl hj
    · exact .inr ⟨l.length, s, by rwa [List.take_length], h64⟩
  · exact ⟨_, _, _, rfl, .inr (.inr ⟨n, c, hnl, rfl, s, L, ac, lf, t, hs, hs64, hL, h1, h2, h3, rfl⟩), own_ta hown⟩

/-- A value that reads as p: nothing, or the call's own machine. -/
def OwnP (w : World) (base : Nat) (v : Value) (p : TA) : Prop :=
  (v = zeroTA ∧ p = zTA) ∨ ∃ L ac lf t, OwnTA w base v L ac.length (accIdx ac) (plLv lf) (plBr L ac.length t) ∧ p = plainA L ac lf t
theorem OwnP.ta {w : World} {base : Nat} {v : Value} {p : TA} (h : OwnP w base v p) : IsTA w w.heap.size v p := by
  rcases h with ⟨rfl, rfl⟩ | ⟨L, ac, lf, t, h, rfl⟩
  · exact zero_ta _
  · exact own_ta h
theorem OwnP.keep {w w' : World} {base base' : Nat} {v : Value} {p : TA} (h : OwnP w base v p) {X : Nat → Prop} (hk : Kept w w' X) (hX : ∀ g e cs, X g → e ≠ 26 → ¬ Blk w g e cs) (hb : base' ≤ base) : OwnP w' base' v p := by
  rcases h with h | ⟨L, ac, lf, t, ⟨v1, v2, v3, rfl, h1, h2, h3⟩, rfl⟩
  · exact .inl h
  · exact .inr ⟨L, ac, lf, t, ⟨v1, v2, v3, rfl, own_weak (own_ty hk h1 fun g cs hg => hX g 3 cs hg (by decide)) hb, own_weak (own_ty hk h2 fun g cs hg => hX g 36 cs hg (by decide)) hb, own_weak (own_ty hk h3 fun g cs hg => hX g 59 cs hg (by decide)) hb⟩, rfl⟩

set_option maxHeartbeats 16000000 in
set_option maxRecDepth 100000 in
theorem refjoined_any {w : World} {c way : Nat} {A : Option Addr} {l : List TA} {j : Bool → Bool → Bool} (h : TAs w w.heap.size A l) (hway : way = 1 ∨ way = 2 ∨ way = 3) (hj : ∀ x y, wayJ way x y = j x y) (hl6 : l.length ≤ 1000) :
    Calls Try.prog 63 #[.slice A l.length c, .int .i64 (way : Int)] w (Ret fun r w' => Below w.heap.size w w' ∧ ∃ v e p, r = .tuple #[v, .int .i64 e] ∧ JoinQ j l e p ∧ OwnP w' w.heap.size v p) := by
  obtain ⟨w1, hw1, hb1, hB1, hk1⟩ := box_blk w #[.int .i64 0, .int .i64 0, .slice none 0 0, .slice none 0 0, .slice none 0 0] 26
  have z1 := hb1.size
  have hHS := hide (h.keep (fun _ hp => hb1.cell hp) hb1.size)
  have hb01 := hide hb1
  have hB1H := hide hB1
  have hl1 := hB1.lt
  by_cases h0 : l.length = 0
  · have hl0 : l = [] := List.length_eq_zero_iff.1 h0
    have hc1 := hB1.cell
    have hf1 := hB1.frozen
    go_enter Try.func63, Try.ntmps63
    go_wp2_with fail
    obtain ⟨wF, hwF, hgF, hkF⟩ := set5_facts hB1H.out (.int .i64 0) (.int .i64 0) (.slice none 0 0) (.slice none 0 0) (.slice none 0 0)
    change bodyPost _ _ _ _ _ (set5 w1 w.heap.size (.int .i64 0) (.int .i64 0) (.slice none 0 0) (.slice none 0 0) (.slice none 0 0))
    rw [hwF]
    have hcF := hgF.cell
    exact bodyPost_ret (v := .tuple #[zeroTA, .int .i64 1]) (by simp [results, Try.results63, go_sem, hcF, zeroTA]) rfl ⟨hb01.out.trans (hkF.below hb01.out.size (fun b hb e => by omega)), _, _, _, rfl, .inl ⟨.inl hl0, rfl, rfl⟩, .inl ⟨rfl, rfl⟩⟩
  · have hpos : 0 < l.length := by omega
    have hz0 : ((l.length : Int) == 0) = false := beq_eq_false_iff_ne.2 (by omega)
    have hWH := hide hway
    have hJH := hide hj
    have hne : Hid (l ≠ []) := fun e => h0 (by rw [e]; rfl)
    clear hway hj h hb1 hB1 h0
    go_enter Try.func63, Try.ntmps63
    go_wp2_with fail
    refine rj_check (g4 := w.heap.size) hHS.out hpos hB1H.out ?_ ?_ ?_
    · repeat (first | exact Reg.NoQ.body (fun _ _ h => h) (fun _ h => h) | refine Reg.NoQ.then ?_ | refine Reg.NoQ.inBlock ?_)
    rotate_left
    · intro hck
      iterate 26 (intro _)
      intro wF hkF hgF
      have hcF := hgF.cell
      have hkH := hide hkF
      clear hkF
      go_wp2_with fail
      exact bodyPost_ret (v := .tuple #[zeroTA, .int .i64 1]) (by simp [results, Try.results63, go_sem, hcF, zeroTA]) rfl ⟨hb01.out.trans (hkH.out.below hb01.out.size (fun b hb e => by omega)), _, _, _, rfl, .inl ⟨.inr hck, rfl, rfl⟩, .inl ⟨rfl, rfl⟩⟩
    intro hck
    iterate 27 (intro _)
    intro w2 hb2
    have hCK := hide hck
    have hLs : ∀ a ∈ l, a.letters.toNat = (l.headD ⟨0, 0, [], [], []⟩).letters.toNat := fun a ha => by rw [(chkL_at hck ha).2]
    have hL18 : 1 ≤ (l.headD ⟨0, 0, [], [], []⟩).letters.toNat ∧ (l.headD ⟨0, 0, [], [], []⟩).letters.toNat ≤ 8 := by
      obtain ⟨a, ha⟩ := get_lt hpos
      obtain ⟨h1, h2⟩ := chkL_at hck (List.mem_of_getElem? ha)
      have := TA.valid_parts h1
      rw [← h2]
      omega
    generalize (l.headD ⟨0, 0, [], [], []⟩).letters.toNat = L at hLs hL18
    have hLsH := hide hLs
    obtain ⟨hL1, hL8⟩ := hL18
    have z2 := hb2.size
    have hT2 := hide (hHS.out.keep (fun _ hp => hb2.cell hp) hb2.size)
    have hB2 := hide (hB1H.out.below hb2)
    have hb02 := hide (hb01.out.trans (hb2.mono z1))
    clear hb2 hLs hck
    go_wp2_with fail
    refine rj_mins (g4 := w.heap.size) (L := L) hT2.out hl6 hB2.out hCK.out hLsH.out ?_ ?_
    rotate_left
    · intro hJL
      iterate 34 (intro _)
      intro wF hkF hgF
      have hcF := hgF.cell
      have hkH := hide hkF
      have hJLH := hide hJL
      clear hkF hJL
      go_wp2_with fail
      exact bodyPost_ret (v := .tuple #[zeroTA, .int .i64 4]) (by simp [results, Try.results63, go_sem, hcF, zeroTA]) rfl ⟨hb02.out.trans (hkH.out.below hb02.out.size (fun b hb e => by omega)), _, _, _, rfl, .inr (.inl ⟨hne.out, hCK.out, hJLH.out, rfl, rfl⟩), .inl ⟨rfl, rfl⟩⟩
    iterate 32 (intro _)
    intro s c' A' rs w3 hb3 hMW hMP hnl hSZ hs64
    have hpr : 0 < rs.length := by rw [hMP.len]; exact hpos
    obtain ⟨⟨ac, lf, t, x1, x2, x3⟩, hr0⟩ := get_lt hpr
    obtain ⟨a0, ha0⟩ := get_lt hpos
    obtain ⟨o1, o2, o3⟩ := hMW.own _ (List.mem_of_getElem? hr0)
    obtain ⟨gl, capl, hve, q0, q1, q2, q3, q4⟩ := hMW.cell hr0
    injection hve with hve _ hve2
    subst hve hve2
    dsimp only at o1 o2 o3 q0 q1 q2 q3 q4
    obtain ⟨B1, d1, rfl⟩ := slice_of_own o1
    obtain ⟨B2, d2, rfl⟩ := slice_of_own o2
    obtain ⟨B3, d3, rfl⟩ := slice_of_own o3
    rw [Nat.zero_mul] at q0 q1 q2 q3 q4
    obtain ⟨w4, hw4, hb4, hB4, hk4⟩ := box_blk w3 #[.int .i64 (L : Int), .int .i64 (ac.length : Int), .slice B1 (accIdx ac).length d1, .slice B2 (plLv lf).length d2, .slice B3 (plBr L ac.length t).length d3] 26
    have z3 := hb3.size
    have z4 := hb4.size
    have hMWH := hide (hMW.below hb4)
    have hlist : Hid (∀ g, (Value.slice (some ⟨gl, 0, none⟩) rs.length c').ownBlock = some g → g ≠ w3.heap.size) := fun g hg e => by
      have := own_lt hMW.row hg
      omega
    have hMPH := hide hMP
    have hNLH := hide hnl
    have hSZH := hide hSZ
    have hr0H := hide hr0
    have ha0H := hide ha0
    have hb4H := hide hb4
    have hB4H := hide hB4
    have hB3 := hide (hB2.out.below hb3)
    have hb03 := hide (hb02.out.trans (hb3.mono hb02.out.size))
    have z03 := hb03.out.size
    clear hMW hMP hnl hSZ hr0 ha0 hb4 hB4 hb3 o1 o2 o3
    go_wp2_with fail
    refine rj_fold (wB := w3) (g12 := w3.heap.size) (base := w2.heap.size) hWH.out hJH.out hb4H.out (Nat.le_refl _) z3 hMWH.out hlist.out hMPH.out hSZH.out hs64 hLsH.out hL8 hL1 hl6 hr0H.out ha0H.out hB4H.out ?_ ?_
    · repeat (first | exact Reg.NoQ.body (fun _ _ h => h) (fun _ h => h) | refine Reg.NoQ.then ?_ | refine Reg.NoQ.inBlock ?_)
    iterate 16 (intro _)
    rintro ⟨ac5, lf5, t5, y1, y2, y3⟩ w5 hb5 hB5 hO5 hok5 hle5 hcan5
    obtain ⟨o1, o2, o3⟩ := hO5
    dsimp only at o1 o2 o3 hok5 hle5 hcan5
    obtain ⟨E1, f1, rfl⟩ := slice_of_own o1
    obtain ⟨E2, f2, rfl⟩ := slice_of_own o2
    obtain ⟨E3, f3, rfl⟩ := slice_of_own o3
    have hO5 := hide (show M3.Own w5 w2.heap.size L ⟨ac5, lf5, t5, _, _, _⟩ from ⟨o1, o2, o3⟩)
    have hc5 : ∀ k, w5.cell? ⟨w3.heap.size, k, none⟩ = #[.int .i64 (L : Int), .int .i64 (ac5.length : Int), .slice E1 (accIdx ac5).length f1, .slice E2 (plLv lf5).length f2, .slice E3 (plBr L ac5.length t5).length f3][k]? := hB5.cell
    have hB15 := hB3.out.below hb5
    have hc15 := hB15.cell
    have hf15 := hB15.frozen
    have hl15 := hB15.lt
    have hB15H := hide hB15
    have hb05 := hide (hb03.out.trans (hb5.mono z03))
    have hokH := hide hok5
    have hcanH := hide hcan5
    clear hB5 hb5 hok5 hcan5 o1 o2 o3 hB15 q0 q1 q2 q3 q4
    go_wp2_with fail
    obtain ⟨wF, hwF, hgF, hkF⟩ := set5_facts hB15H.out (.int .i64 (L : Int)) (.int .i64 (ac5.length : Int)) (.slice E1 (accIdx ac5).length f1) (.slice E2 (plLv lf5).length f2) (.slice E3 (plBr L ac5.length t5).length f3)
    change bodyPost _ _ _ _ _ (set5 w5 w.heap.size (.int .i64 (L : Int)) (.int .i64 (ac5.length : Int)) (.slice E1 (accIdx ac5).length f1) (.slice E2 (plLv lf5).length f2) (.slice E3 (plBr L ac5.length t5).length f3))
    rw [hwF]
    have hcF := hgF.cell
    have hne5 : ∀ g e cs, g = w.heap.size → e ≠ 26 → ¬ Blk w5 g e cs := fun g e cs eg he hb => by subst eg; exact hB15H.out.ne_ hb (fun h => he h.symm) rfl
    exact bodyPost_ret (v := .tuple #[.agg #[.int .i64 (L : Int), .int .i64 (ac5.length : Int), .slice E1 (accIdx ac5).length f1, .slice E2 (plLv lf5).length f2, .slice E3 (plBr L ac5.length t5).length f3], .int .i64 0]) (by simp [results, Try.results63, go_sem, hcF]) rfl
      ⟨hb05.out.trans (hkF.below hb05.out.size (fun b hb e => by omega)), _, _, _, rfl, .inr (.inr ⟨hne.out, hCK.out, hNLH.out, rfl, s, L, ac5, lf5, t5, hSZH.out, hs64, hLsH.out, hokH.out, hle5, hcanH.out, rfl⟩), .inr ⟨L, ac5, lf5, t5, ((hO5.out.keep hkF hne5).weak (by omega)).ta, rfl⟩⟩

set_option maxHeartbeats 8000000 in
set_option maxRecDepth 100000 in
theorem refunion_any {w : World} {c : Nat} {A : Option Addr} {l : List TA} (h : TAs w w.heap.size A l) (hl6 : l.length ≤ 1000) :
    Calls Try.prog 35 #[.slice A l.length c] w (Ret fun r w' => Below w.heap.size w w' ∧ ∃ v e p, r = .tuple #[v, .int .i64 e] ∧ JoinQ (fun a b => a || b) l e p ∧ OwnP w' w.heap.size v p) := by
  obtain ⟨w1, hw1, hb1, hB1, hk1⟩ := box_blk w #[.int .i64 0, .int .i64 0, .slice none 0 0, .slice none 0 0, .slice none 0 0] 26
  have z1 := hb1.size
  have hl1 := hB1.lt
  have hHS := hide (h.keep (fun _ hp => hb1.cell hp) hb1.size)
  have hb01 := hide hb1
  have hB1H := hide hB1
  clear h hb1 hB1
  go_enter Try.func35, Try.ntmps35
  go_wp2_with fail
  refine Calls.ret (refjoined_any (way := 2) (j := (fun a b => a || b)) hHS.out (by omega) (fun x y => by cases x <;> cases y <;> rfl) hl6) ?_
  rintro r w2 ⟨hb2, v, e, p, rfl, hq, hta⟩
  have hTA := hide hta
  obtain ⟨P2, a2, P3, a3, P4, a4, rfl, s1, s2, s3⟩ := hta.ta
  have hB2 := hB1H.out.below hb2
  have hc2 := hB2.cell
  have hf2 := hB2.frozen
  have hl2 := hB2.lt
  have hB2H := hide hB2
  have hb02 := hide (hb01.out.trans (hb2.mono z1))
  have hQH := hide hq
  clear hb2 hB2 hq s1 s2 s3 hta
  go_wp2_with fail
  obtain ⟨wF, hwF, hgF, hkF⟩ := set5_facts hB2H.out (.int .i64 p.letters) (.int .i64 p.states) (.slice P2 p.accept.length a2) (.slice P3 p.leaves.length a3) (.slice P4 p.branches.length a4)
  change bodyPost _ _ _ _ _ (set5 w2 w.heap.size (.int .i64 p.letters) (.int .i64 p.states) (.slice P2 p.accept.length a2) (.slice P3 p.leaves.length a3) (.slice P4 p.branches.length a4))
  rw [hwF]
  have hcF := hgF.cell
  have hne2 : ∀ g e cs, g = w.heap.size → e ≠ 26 → ¬ Blk w2 g e cs := fun g e cs eg he hb => by subst eg; exact hB2H.out.ne_ hb (fun h => he h.symm) rfl
  exact bodyPost_ret (v := .tuple #[.agg #[.int .i64 p.letters, .int .i64 p.states, .slice P2 p.accept.length a2, .slice P3 p.leaves.length a3, .slice P4 p.branches.length a4], .int .i64 e]) (by simp [results, Try.results35, go_sem, hcF]) rfl ⟨hb02.out.trans (hkF.below hb02.out.size (fun b hb e => by omega)), _, _, _, rfl, hQH.out, hTA.out.keep hkF hne2 z1⟩

set_option maxHeartbeats 8000000 in
set_option maxRecDepth 100000 in
theorem refinter_any {w : World} {c : Nat} {A : Option Addr} {l : List TA} (h : TAs w w.heap.size A l) (hl6 : l.length ≤ 1000) :
    Calls Try.prog 37 #[.slice A l.length c] w (Ret fun r w' => Below w.heap.size w w' ∧ ∃ v e p, r = .tuple #[v, .int .i64 e] ∧ JoinQ (fun a b => a && b) l e p ∧ OwnP w' w.heap.size v p) := by
  obtain ⟨w1, hw1, hb1, hB1, hk1⟩ := box_blk w #[.int .i64 0, .int .i64 0, .slice none 0 0, .slice none 0 0, .slice none 0 0] 26
  have z1 := hb1.size
  have hl1 := hB1.lt
  have hHS := hide (h.keep (fun _ hp => hb1.cell hp) hb1.size)
  have hb01 := hide hb1
  have hB1H := hide hB1
  clear h hb1 hB1
  go_enter Try.func37, Try.ntmps37
  go_wp2_with fail
  refine Calls.ret (refjoined_any (way := 1) (j := (fun a b => a && b)) hHS.out (by omega) (fun x y => by cases x <;> cases y <;> rfl) hl6) ?_
  rintro r w2 ⟨hb2, v, e, p, rfl, hq, hta⟩
  have hTA := hide hta
  obtain ⟨P2, a2, P3, a3, P4, a4, rfl, s1, s2, s3⟩ := hta.ta
  have hB2 := hB1H.out.below hb2
  have hc2 := hB2.cell
  have hf2 := hB2.frozen
  have hl2 := hB2.lt
  have hB2H := hide hB2
  have hb02 := hide (hb01.out.trans (hb2.mono z1))
  have hQH := hide hq
  clear hb2 hB2 hq s1 s2 s3 hta
  go_wp2_with fail
  obtain ⟨wF, hwF, hgF, hkF⟩ := set5_facts hB2H.out (.int .i64 p.letters) (.int .i64 p.states) (.slice P2 p.accept.length a2) (.slice P3 p.leaves.length a3) (.slice P4 p.branches.length a4)
  change bodyPost _ _ _ _ _ (set5 w2 w.heap.size (.int .i64 p.letters) (.int .i64 p.states) (.slice P2 p.accept.length a2) (.slice P3 p.leaves.length a3) (.slice P4 p.branches.length a4))
  rw [hwF]
  have hcF := hgF.cell
  have hne2 : ∀ g e cs, g = w.heap.size → e ≠ 26 → ¬ Blk w2 g e cs := fun g e cs eg he hb => by subst eg; exact hB2H.out.ne_ hb (fun h => he h.symm) rfl
  exact bodyPost_ret (v := .tuple #[.agg #[.int .i64 p.letters, .int .i64 p.states, .slice P2 p.accept.length a2, .slice P3 p.leaves.length a3, .slice P4 p.branches.length a4], .int .i64 e]) (by simp [results, Try.results37, go_sem, hcF]) rfl ⟨hb02.out.trans (hkF.below hb02.out.size (fun b hb e => by omega)), _, _, _, rfl, hQH.out, hTA.out.keep hkF hne2 z1⟩

end Go.Proofs.Ytnimlcbgeiajiaa
