/-
  Part JD of a proof.
-/
import Derived.Test.YtakpmdmjbgipiaaGreatDoorPA
import Derived.Test.YtakpmdmjbgipiaaGreatDoorJA
set_option maxHeartbeats 16000000
set_option maxRecDepth 100000
set_option linter.unusedVariables false
set_option linter.unusedSimpArgs false
namespace Go.Proofs.YtakpmdmjbgipiaaGreatDoor
open Go.RowKit
set_option maxHeartbeats 16000000
set_option maxRecDepth 100000
def kOf (cl st : List Nat) : List Nat := st.map fun s => cl.getD s 0
theorem kOf_snoc (cl st : List Nat) (s : Nat) : kOf cl (st ++ [s]) = kOf cl st ++ [cl.getD s 0] := by simp [kOf]
theorem kOf_get {cl st : List Nat} {k s : Nat} (h : st[k]? = some s) : (kOf cl st)[k]? = some (cl.getD s 0) := map_get (f := fun s => cl.getD s 0) h
theorem kOf_pre {cl st st' : List Nat} (h : st <+: st') : kOf cl st <+: kOf cl st' := by
 obtain ⟨u, rfl⟩ := h
 unfold kOf
 rw [List.map_append]
 exact List.prefix_append _ _
theorem kOf_old {cl st : List Nat} {k s z : Nat} (hs : st[k]? = some s) (hz : cl.getD s 0 = z) (hno : ∀ p s', p < k → st[p]? = some s' → cl.getD s' 0 ≠ z) : posL (kOf cl st) z = k ∧ z ∈ kOf cl st := by
 have h1 := kOf_get (cl := cl) hs
 rw [hz] at h1
 refine ⟨posL_first h1 fun j hj hc => ?_, List.mem_of_getElem? h1⟩
 unfold kOf at hc
 rw [List.getElem?_map] at hc
 rcases hj2 : st[j]? with _ | s'
 ·rw [hj2] at hc; cases hc
 ·rw [hj2] at hc
  exact hno j s' hj hj2 (by simpa using hc)
theorem kOf_new {cl st : List Nat} {z : Nat} (hno : ∀ p s', p < st.length → st[p]? = some s' → cl.getD s' 0 ≠ z) : z ∉ kOf cl st := fun hm => by
 obtain ⟨s', hs', e⟩ := List.mem_map.1 hm
 obtain ⟨j, hj⟩ := List.mem_iff_getElem?.1 hs'
 exact hno j s' (lt_of_get hj) hj e
structure CnX (w0 : World) (g2 gc L n : Nat) (vN vA : Value) (t : List (List Nat)) (ac : List Bool) (cl : List Nat) : Prop where
 tab : TabF w0 L n vN vA t ac
 b : Blk w0 g2 77 #[vN, vA]
 c : NumsAt w0 gc n cl
 w : ClsW L n (dnx t) (dac ac) cl
theorem CnX.lt {w0 : World} {g2 gc L n q x : Nat} {vN vA : Value} {t : List (List Nat)} {ac : List Bool} {cl : List Nat} (h : CnX w0 g2 gc L n vN vA t ac cl) (hq : q < n) (hx : x < L) : dnx t q x < n := by
 have h1 := h.tab.n
 have := h.tab.ok.lt (q := q) (by omega) hx
 omega
theorem CnX.st_len {w0 : World} {g2 gc L n : Nat} {vN vA : Value} {t : List (List Nat)} {ac : List Bool} {cl st : List Nat} (h : CnX w0 g2 gc L n vN vA t ac cl) (hn : (kOf cl st).Nodup) (hl : ∀ s ∈ st, s < n) : st.length ≤ n := by
 have := sub_len _ (List.range n) hn fun v hv => by
  obtain ⟨s, hs, rfl⟩ := List.mem_map.1 hv
  exact List.mem_range.2 (h.w.lt s (hl s hs))
 simpa [kOf] using this
theorem can_x {w0 w : World} {g2 gc g6 gs L n i q co : Nat} {Ao : Option Addr} {vN vA vC vE : Value} {t : List (List Nat)} {ac : List Bool} {cl st : List Nat} {as' : List Int} {es : List Edg} (hX : CnX w0 g2 gc L n vN vA t ac cl) (hn : n ≤ 200000) (hL : L ≤ 8)
    (hM : CnM w0 w g6 gs L (.slice Ao st.length co) vC vE st as' es) (hE : Exp L (clsNx (dnx t) cl) (cl.getD 0 0) i (kOf cl st)) (hq : st[i]? = some q) (hst : ∀ s ∈ st, s < n) (hes : es.length ≤ 2000000)
    {u0 u3 u4 u10 u11 u12 u13 u14 u15 u16 u17 u18 u19 u20 u21 u22 u23 u24 u25 u26 u27 u28 u29 u30 u31 u32 u33 u34 u35 u36 u37 u38 u39 u40 u41 u42 u43 u44 u45 u46 u47 u48 u49 u50 u51 u52 u53 u54 u55 u56 u57 u58 u59 u60 u61 u62 u63 u64 u65 u66 u67 u68 u69 u70 u71 u72 u73 u74 u75 u76 u77 u78 u79 u80 u81 u82 u83 u84 u85 u86 u87 u88 u89 u90 u91 u92 u93 u94 u95 : Value}
    {Q : Exit → Act → World → Prop} (hN : Reg.NoQ Q)
    (hQ : ∀ (x9 x10 x11 x39 x40 x41 x42 x43 x44 x45 x46 x47 x48 x49 x50 x51 x52 x53 x54 x55 x56 x57 x58 x59 x60 x61 x62 x63 x64 x65 x66 x67 x68 x69 x70 x71 x72 x73 x74 x75 x76 x77 x78 x79 x80 x81 x82 x83 x84 x85 x86 x87 x88 x89 x90 x91 : Value) (w' : World) (vO' vE' : Value) (st' : List Nat), CnM w0 w' g6 gs L vO' vC vE' st' as' (es ++ rowP (clsNx (dnx t) cl) (kOf cl st') (cl.getD q 0) i L) → kOf cl st' = rowL (clsNx (dnx t) cl) (cl.getD q 0) (kOf cl st) L → st <+: st' → (∀ s ∈ st', s < n) →
      Q (.exit 2) ⟨List.toArray (u0 :: (.int .i64 L) :: (.pointer (some ⟨g2, 0, none⟩)) :: u3 :: u4 :: (.slice (some ⟨gc, 0, none⟩) n n) :: (.pointer (some ⟨g6, 0, none⟩)) :: vO' :: (.int .i64 i) :: x9 :: x10 :: x11 :: u12 :: u13 :: u14 :: u15 :: u16 :: u17 :: u18 :: u19 :: u20 :: u21 :: u22 ::
      u23 :: u24 :: u25 :: u26 :: u27 :: u28 :: u29 :: u30 :: u31 :: u32 :: u33 :: u34 :: u35 :: u36 :: u37 :: u38 :: x39 :: x40 :: x41 :: x42 :: x43 :: x44 :: x45 :: x46 :: x47 :: x48 :: x49 :: x50 :: x51 :: x52 :: x53 :: x54 :: x55 :: x56 :: x57 :: x58 :: x59 ::
      x60 :: x61 :: x62 :: x63 :: x64 :: x65 :: x66 :: x67 :: x68 :: x69 :: x70 :: x71 :: x72 :: x73 :: x74 :: x75 :: x76 :: x77 :: x78 :: x79 :: x80 :: x81 :: x82 :: x83 :: x84 :: x85 :: x86 :: x87 :: x88 :: x89 :: x90 :: x91 :: u92 :: u93 :: u94 :: u95 :: []), []⟩ w') :
    (Code.loop (loopBody Tryz.f61 1)).wp Tryz.prog Q ⟨List.toArray (u0 :: (.int .i64 L) :: (.pointer (some ⟨g2, 0, none⟩)) :: u3 :: u4 :: (.slice (some ⟨gc, 0, none⟩) n n) :: (.pointer (some ⟨g6, 0, none⟩)) :: (.slice Ao st.length co) :: (.int .i64 i) :: (.int .i64 0) :: u10 :: u11 :: u12 :: u13 :: u14 :: u15 :: u16 :: u17 ::
      u18 :: u19 :: u20 :: u21 :: u22 :: u23 :: u24 :: u25 :: u26 :: u27 :: u28 :: u29 :: u30 :: u31 :: u32 :: u33 :: u34 :: u35 :: u36 :: u37 :: u38 :: u39 :: u40 :: u41 :: u42 :: u43 :: u44 :: u45 :: u46 :: u47 :: u48 :: u49 :: u50 :: u51 :: u52 :: u53 :: u54 ::
      u55 :: u56 :: u57 :: u58 :: u59 :: u60 :: u61 :: u62 :: u63 :: u64 :: u65 :: u66 :: u67 :: u68 :: u69 :: u70 :: u71 :: u72 :: u73 :: u74 :: u75 :: u76 :: u77 :: u78 :: u79 :: u80 :: u81 :: u82 :: u83 :: u84 :: u85 :: u86 :: u87 :: u88 :: u89 :: u90 :: u91 ::
      u92 :: u93 :: u94 :: u95 :: []), []⟩ w := by
  conv => arg 2; arg 1; whnf
  obtain ⟨bN, oN, cN, rfl, hbN, hrows⟩ := hX.tab.at
  obtain ⟨bA, oA, cA, rfl, -⟩ := hX.tab.mark
  have hrH := hide hrows
  have hMH := hide hM
  have hEH := hide hE
  have hXH := hide hX
  have hqn := hst q (List.mem_of_getElem? hq)
  have hqH := hide hq
  clear hrows hM hE hX hq
  go_loopw [7, 9] (fun vv xx wr => ∃ (x : Nat) (st' : List Nat) (vE' : Value), xx = .int .i64 (x : Int) ∧ x ≤ L ∧ Hid (CnM w0 wr g6 gs L vv vC vE' st' as' (es ++ rowP (clsNx (dnx t) cl) (kOf cl st') (cl.getD q 0) i x)) ∧ Hid (kOf cl st' = rowL (clsNx (dnx t) cl) (cl.getD q 0) (kOf cl st) x) ∧ Hid (st <+: st') ∧ Hid (∀ s ∈ st', s < n)) (fun _ xx _ => L - (intOf xx).toNat)
  case atStart => exact ⟨0, st, vE, rfl, Nat.zero_le _, by rw [rowP_zero, List.append_nil]; exact hMH, hide rfl, hide (List.prefix_refl _), hide hst⟩
  case round =>
    obtain ⟨x, st', vE', rfl, hx, hI, hk, hp, hl⟩ := hrel
    obtain ⟨Ao', co', rfl⟩ := slice_of_own hI.out.ord
    have hnd : (kOf cl st').Nodup := by rw [hk.out]; exact rowL_nodup _ hEH.out.inv.nodup _
    have hsl := hXH.out.st_len hnd hl.out
    clear hnd
    by_cases hxL : x < L
    · obtain ⟨A, c', hr1, hr2⟩ := hrH.out q hqn
      obtain ⟨b2, o2, rfl, hb2, hr3, hto⟩ := hr2 x hxL
      have hnx := hide (hXH.out.w.nxE (fun q x hq hx => hXH.out.lt hq hx) hqn hxL)
      obtain ⟨to, htoe⟩ : ∃ to, to = dnx t q x := ⟨_, rfl⟩
      rw [← htoe] at hr3 hto
      have htH := hide htoe
      have hcb := (hXH.out.b.below hI.out.below).cell
      have hq' := prefix_get hp.out hqH.out
      obtain ⟨gf, cf', hv, hcq⟩ := own_get hI.out.ord (map_get (f := Value.int .i64) (map_get (f := fun x : Nat => (x : Int)) hq'))
      injection hv with hv hv2 hv3
      subst hv hv3
      have hil := lt_of_get hq'
      have c1 := (hI.out.below.cell (p := ⟨bN, oN + q, none⟩) hbN).trans hr1
      have c2 := (hI.out.below.cell (p := ⟨b2, o2 + x, none⟩) hb2).trans hr3
      obtain ⟨m, hm⟩ : ∃ m, m = st'.length := ⟨_, rfl⟩
      rw [← hm] at hsl hil hI ⊢
      have hmH := hide hm
      have hId := hide (hI.out.keep (drewB wr))
      clear hr1 hr2 hr3 htoe hq' hm hv2
      go_wp2_with fail
      refine Reg.cP [0, 1, 0, 0, 12, 28, 63, 127, 0, 511, 1023, 2047] ?_ (by kernel_rfl) (by repeat (first | exact hN | refine Reg.NoQ.then ?_ | refine Reg.NoQ.inBlock ?_))
      go_wp2_with fail
      rw [hmH.out]
      have hId2 := hId
      rw [hmH.out] at hId2
      refine can_k hXH.out.c (hI.out.below.trans ((drewB wr).mono hI.out.below.size)) hId2.out.ord hl.out hto hn (by rw [← hmH.out]; omega) ?_
      iterate 20 (intro _)
      intro w3 k hb3 hkm hno hyes
      have hI3 := hide (hId2.out.keep hb3)
      have hnoH := hide hno
      have hyesH := hide hyes
      have hkm2 : k ≤ m := by rw [hmH.out]; exact hkm
      obtain ⟨AE, cE, rfl⟩ := slice_of_own hI3.out.eds
      have hel : Hid ((es ++ rowP (clsNx (dnx t) cl) (kOf cl st') (cl.getD q 0) i x).length = es.length + x) := by show _ = _; rw [List.length_append, rowP_len]
      clear hno hyes hkm hb3 hId hId2 c1 c2 hcb
      by_cases hkl : k < m
      · obtain ⟨s, hs⟩ := get_lt (l := st') (i := k) (by rw [← hmH.out]; exact hkl)
        obtain ⟨hpos, hmem⟩ := kOf_old hs (hyesH.out s hs) hnoH.out
        have hne : ((k : Int) == (m : Int)) = false := by simp; omega
        have hrow : Hid (kOf cl st' = rowL (clsNx (dnx t) cl) (cl.getD q 0) (kOf cl st) (x + 1)) := by
          show _ = _
          rw [rowL_succ, ← hk.out, hnx.out, ← htH.out]
          unfold meetL
          rw [if_pos hmem]
        have hedge : Hid (es ++ rowP (clsNx (dnx t) cl) (kOf cl st') (cl.getD q 0) i (x + 1) = (es ++ rowP (clsNx (dnx t) cl) (kOf cl st') (cl.getD q 0) i x) ++ [⟨(i : Int), (x : Int), (k : Int)⟩]) := by
          show _ = _
          have h1 := rowP_succ (δ := clsNx (dnx t) cl) (kOf cl st) (cl.getD q 0) i x
          rw [← hrow.out, ← hk.out, hnx.out, ← htH.out, hpos] at h1
          rw [h1, List.append_assoc]
        have hc6 := hI3.out.b6.cell
        have heds := hI3.out.eds
        obtain ⟨me, hme⟩ : ∃ me, me = (es ++ rowP (clsNx (dnx t) cl) (kOf cl st') (cl.getD q 0) i x).length := ⟨_, rfl⟩
        have hme1 : me + 1 ≤ 4000000 := by have := hel.out; omega
        rw [← hme] at hc6 heds
        have hsz := hI3.out.below.size
        have hmeH := hide hme
        rw [← hmH.out]
        clear hme hs hpos hmem
        go_wp2_with (
          at_builtin
          refine wpList_app_new (w := w3) row35 rfl _ _ rfl w0.heap.size (.slice AE me cE) me _ rfl heds [.int .i64 (i : Int), .int .i64 (x : Int), .int .i64 (k : Int)] 1 rfl rfl (by simp [Value.oneCell']) hme1 hsz ?_
          intro g' cap' w7 hown7 hk7 hmv7 hg7
          have hk7' := hk7
          rw [hmeH.out] at hk7'
          have hb67 := hI3.out.b6.kept hk7' (own_blk_ne hI3.out.eds hI3.out.b6 (by decide))
          have hc67 := hb67.cell
          have hf67 := hb67.frozen 4
          have hl67 := hb67.lt
          have hE7 := hide (hI3.out.addE (d := ⟨(i : Int), (x : Int), (k : Int)⟩) (vE' := .slice (some ⟨g', 0, none⟩) (me + 1) cap') hk7' (by rw [← hmeH.out]; exact hown7))
          clear hown7 hk7 hk7' hmv7 hb67)
        refine ⟨⟨x + 1, st', .slice (some ⟨g', 0, none⟩) (me + 1) cap', by go_num, by omega, ?_, hrow, hp, hl⟩, by simp [intOf]; omega⟩
        rw [hedge.out]
        have := hE7.out
        rw [← hmH.out] at this
        exact this
      · obtain rfl : k = m := by omega
        have hnew := kOf_new (cl := cl) (st := st') (z := cl.getD to 0) fun p s' hp hs' => hnoH.out p s' (by have := hmH.out; omega) hs'
        have heq : ((k : Int) == (k : Int)) = true := by simp
        have hsn : Hid (kOf cl (st' ++ [to]) = rowL (clsNx (dnx t) cl) (cl.getD q 0) (kOf cl st) (x + 1)) := by
          show _ = _
          rw [rowL_succ, ← hk.out, hnx.out, ← htH.out, kOf_snoc]
          unfold meetL
          rw [if_neg hnew]
        have hpos : posL (kOf cl (st' ++ [to])) (cl.getD to 0) = k := by
          rw [kOf_snoc, pos_new hnew]
          have := hmH.out
          simp [kOf]
          omega
        have hedge : Hid (es ++ rowP (clsNx (dnx t) cl) (kOf cl (st' ++ [to])) (cl.getD q 0) i (x + 1) = (es ++ rowP (clsNx (dnx t) cl) (kOf cl st') (cl.getD q 0) i x) ++ [⟨(i : Int), (x : Int), (k : Int)⟩]) := by
          show _ = _
          have h1 := rowP_succ (δ := clsNx (dnx t) cl) (kOf cl st) (cl.getD q 0) i x
          rw [← hsn.out, ← hk.out, hnx.out, ← htH.out, hpos] at h1
          rw [h1, List.append_assoc]
        have hord := hI3.out.ord
        obtain ⟨me, hme⟩ : ∃ me, me = (es ++ rowP (clsNx (dnx t) cl) (kOf cl st') (cl.getD q 0) i x).length := ⟨_, rfl⟩
        have hme1 : me + 1 ≤ 4000000 := by have := hel.out; omega
        have hmeH := hide hme
        rw [← hmH.out] at hord
        have hsz := hI3.out.below.size
        rw [← hmH.out]
        clear hme hnew hpos
        go_wp2_with (
          at_builtin
          first
          | (refine wpList_app_new (w := w3) row3 rfl _ _ rfl w0.heap.size (.slice (some ⟨gf, 0, none⟩) k co') k _ rfl hord [.int .i64 (to : Int)] 1 rfl rfl (by simp [Value.oneCell']) (by omega) hsz ?_
             intro g5 cap5 w5 hown5 hk5 hmv5 hg5
             have hI5 := hide (hI3.out.addO (s := to) (vO' := .slice (some ⟨g5, 0, none⟩) (k + 1) cap5) (by rw [← hmH.out]; exact hk5) (by rw [← hmH.out]; exact hown5) (by rw [← hmH.out]; exact hmv5))
             have hc6 := hI5.out.b6.cell
             have heds := hI5.out.eds
             rw [← hmeH.out] at hc6 heds
             have hsz5 := hI5.out.below.size
             clear hown5 hk5 hmv5 hg5)
          | (refine wpList_app_new (w := w5) row35 rfl _ _ rfl w0.heap.size (.slice AE me cE) me _ rfl heds [.int .i64 (i : Int), .int .i64 (x : Int), .int .i64 (k : Int)] 1 rfl rfl (by simp [Value.oneCell']) hme1 hsz5 ?_
             intro g' cap' w7 hown7 hk7 hmv7 hg7
             have hk7' := hk7
             rw [hmeH.out] at hk7'
             have hb67 := hI5.out.b6.kept hk7' (own_blk_ne hI5.out.eds hI5.out.b6 (by decide))
             have hc67 := hb67.cell
             have hf67 := hb67.frozen 4
             have hl67 := hb67.lt
             have hE7 := hide (hI5.out.addE (d := ⟨(i : Int), (x : Int), (k : Int)⟩) (vE' := .slice (some ⟨g', 0, none⟩) (me + 1) cap') hk7' (by rw [← hmeH.out]; exact hown7))
             clear hown7 hk7 hk7' hmv7 hb67))
        refine ⟨⟨x + 1, st' ++ [to], .slice (some ⟨g', 0, none⟩) (me + 1) cap', by go_num, by omega, ?_, hsn, hide (hp.out.trans (List.prefix_append _ _)), hide fun s hs => ?_⟩, by simp [intOf]; omega⟩
        · rw [hedge.out]
          exact hE7.out
        · rcases List.mem_append.1 hs with hs | hs
          · exact hl.out s hs
          · rw [List.mem_singleton.1 hs]; exact hto
    · obtain rfl : x = L := by omega
      clear hsl
      go_wp2_with fail
      exact hQ _ _ _ _ _ _ _ _ _ _ _ _ _ _ _ _ _ _ _ _ _ _ _ _ _ _ _ _ _ _ _ _ _ _ _ _ _ _ _ _ _ _ _ _ _ _ _ _ _ _ _ _ _ _ _ _ wr _ vE' st' hI.out hk.out hp.out hl.out
end Go.Proofs.YtakpmdmjbgipiaaGreatDoor
namespace Go.Proofs.YtakpmdmjbgipiaaGreatDoor
open Go.RowKit
set_option maxHeartbeats 16000000
set_option maxRecDepth 100000
theorem can_mem (w3 : World) (L : Nat) : ∃ w4 w5 w6 w7, w3.alloc (.cells #[.int .i64 0] 3) = w4 ∧ w4.alloc (.cells zero25 28) = w5 ∧ set5 w5 w4.heap.size (.int .i64 (L : Int)) (.int .i64 0) (.slice (some ⟨w3.heap.size, 0, none⟩) 1 1) sn0 sn0 = w6 ∧ w6.alloc (.cells #[.int .i64 0] 3) = w7 ∧
  Blk w5 w4.heap.size 28 zero25 ∧ CnM w3 w7 w4.heap.size w3.heap.size L (.slice (some ⟨w6.heap.size, 0, none⟩) 1 1) sn0 sn0 [0] [] [] := by
 obtain ⟨w4, h4, hb4, hB4, hk4⟩ := box_blk w3 #[.int .i64 0] 3
 obtain ⟨w5, h5, hb5, hB5, hk5⟩ := box_blk w4 zero25 28
 obtain ⟨w6, h6, hB6, hK6⟩ := set5_facts hB5 (.int .i64 (L : Int)) (.int .i64 0) (.slice (some ⟨w3.heap.size, 0, none⟩) 1 1) sn0 sn0
 obtain ⟨w7, h7, hb7, hB7, hk7⟩ := box_blk w6 #[.int .i64 0] 3
 have l4 := hB4.lt
 have l5 := hB5.lt
 have s5 := hb5.size
 have s6 := hK6.size
 have s7 := hb7.size
 have b46 : Below w4.heap.size w4 w6 := hb5.trans (hK6.below s5 fun b hb e => by omega)
 have b36 : Below w3.heap.size w3 w6 := hb4.trans (b46.mono (by omega))
 refine ⟨w4, w5, w6, w7, h4, h5, h6, h7, hB5, ⟨b36.trans (hb7.mono (by omega)), hB6.below hb7, (hB4.below b46).below hb7, ?_, own_nil, own_nil, by simp [Value.ownBlock], ?_, fun g _ => by simp [Value.ownBlock], ⟨by omega, Nat.le_refl _⟩⟩⟩
 ·exact own_of_blk (base := w3.heap.size) (n := 1) hB7 (by omega) rfl (by omega)
 ·intro e
  have : w6.heap.size = w3.heap.size := by simpa [Value.ownBlock] using e
  omega
theorem ClsR.toWn {L n : Nat} {nx : Nat → Nat → Nat} {acc : Nat → Bool} {cl : List Nat} (h : ClsR L n nx acc (-1) cl) : ClsW L n nx acc cl := h.toW
def CanonRet (w : World) (L n : Nat) (t : List (List Nat)) (ac : List Bool) (r : Value) (w' : World) : Prop :=
 Below w.heap.size w w' ∧ ∃ t' ac', CanT L t' ac' (langT t ac) ∧ ac'.length ≤ n ∧ ∀ w'', Kept w' w'' (fun k => k < w.heap.size) → IsWA w'' w''.heap.size r (plainW L t' ac')
theorem refcanon_any {w : World} {L n : Nat} {vN vA : Value} {t : List (List Nat)} {ac : List Bool} (hT : TabF w L n vN vA t ac) (hn : n ≤ 200000) (hL : L ≤ 8) :
    Calls Tryz.prog 61 #[.agg #[vN, vA], .int .i64 (L : Int)] w (Ret fun r w' => CanonRet w L n t ac r w') := by
  have hTH := hide hT
  obtain ⟨bN, oN, cN, rfl, -⟩ := hT.at
  obtain ⟨bA, oA, cA, rfl, hbA, hmk⟩ := hT.mark
  have hn1 : 1 ≤ n := by have := hT.ok.pos; have := hT.n; omega
  have hacn := hide hT.n
  obtain ⟨w1, hw1, hb1, hB1, hk1⟩ := box_blk w #[.slice (some ⟨bN, oN, none⟩) n cN, .slice (some ⟨bA, oA, none⟩) n cA] 77
  obtain ⟨w2, hw2, hb2, hB2, hk2⟩ := box_blk w1 zero25 28
  have s1 := hb1.size
  have s2 := hb2.size
  have l1 := hB1.lt
  have l2 := hB2.lt
  have b02 := hide (hb1.trans (hb2.mono s1))
  have hBt2 := hide (hB1.below hb2)
  have hBr2 := hide hB2
  have hcls := refclasses_any (d := -1) (hTH.out.below b02.out) hn hL
  have hmkH := hide hmk
  have f1 := hBt2.out.cell
  clear hT hmk hb1 hB1 hk1 hb2 hB2 hk2
  go_enter Tryz.func61, Tryz.ntmps61
  go_wp2_with fail
  refine Calls.ret hcls ?_
  rintro r w3 ⟨hb3, gc, cl, rfl, hgc, hBc, hR⟩
  have b03 := hide (b02.out.trans (hb3.mono b02.out.size))
  have hBt3 := hide (hBt2.out.below hb3)
  have hBr3 := hide (hBr2.out.below hb3)
  have hXH := hide (show CnX w3 w.heap.size gc L n (.slice (some ⟨bN, oN, none⟩) n cN) (.slice (some ⟨bA, oA, none⟩) n cA) t ac cl from ⟨hTH.out.below b03.out, hBt3.out, NumsAt.of_blk hBc hR.len, hR.toW⟩)
  have s3 := b03.out.size
  have l3 := hBr3.out.lt
  have l3c := hBc.lt
  clear hcls hb3 hBc hR f1
  obtain ⟨w4, w5, w6, w7, hw4, hw5, hw6, hw7, hB5, hM⟩ := can_mem w3 L
  have hMH := hide hM
  have f5 := hB5.frozen
  have g5 := hB5.lt
  have k5 := hB5.cell
  unfold set5 at hw6
  clear hM hB5
  go_wp2_with fail
  go_loopw [7, 8] (fun vv ii wr => ∃ (i : Nat) (st : List Nat) (vC vE : Value), ii = .int .i64 (i : Int) ∧ i ≤ n ∧ Hid (CnM w3 wr w4.heap.size w3.heap.size L vv vC vE st (accI (st.map (dac ac)) i) (edgE L (rowsG L (clsNx (dnx t) cl) (kOf cl st) i) i)) ∧ Hid (Exp L (clsNx (dnx t) cl) (cl.getD 0 0) i (kOf cl st)) ∧ Hid (∀ s ∈ st, s < n)) (fun _ ii _ => n - (intOf ii).toNat)
  case atStart => exact ⟨0, [0], sn0, sn0, rfl, Nat.zero_le _, hMH, hide .start, hide fun s hs => by rw [List.mem_singleton.1 hs]; omega⟩
  case round =>
    obtain ⟨i, st, vC, vE, rfl, hi, hI, hE, hl⟩ := hrel
    have hsl := hXH.out.st_len hE.out.inv.nodup hl.out
    obtain ⟨Ao, co, rfl⟩ := slice_of_own hI.out.ord
    by_cases hlt : i < st.length
    · obtain ⟨q, hq⟩ := get_lt hlt
      have hqn := hl.out q (List.mem_of_getElem? hq)
      obtain ⟨gf, cf', hv, hcq⟩ := own_get hI.out.ord (map_get (f := Value.int .i64) (map_get (f := fun x : Nat => (x : Int)) hq))
      injection hv with hv hv2 hv3
      subst hv hv3
      have hca := (b03.out.cell (p := ⟨bA, oA + q, none⟩) hbA).trans (hmkH.out q hqn)
      have hcb := (hI.out.below.cell (p := ⟨bA, oA + q, none⟩) (by have := b03.out.size; show bA < _; omega)).trans hca
      obtain ⟨b, hb⟩ : ∃ b, dac ac q = b := ⟨_, rfl⟩
      rw [hb] at hcb
      have hsu := hide (accI_succ (ac := st.map (dac ac)) (q := i) (b := b) (by rw [← hb]; exact map_get (f := dac ac) hq))
      have hct := (hBt3.out.below hI.out.below).cell
      have hqH := hide hq
      obtain ⟨m, hm⟩ : ∃ m, m = st.length := ⟨_, rfl⟩
      rw [← hm] at hsl hlt ⊢
      have hmH := hide hm
      obtain ⟨AC, cC, rfl⟩ := slice_of_own hI.out.acc
      have hla := accI_len (st.map (dac ac)) i
      have hle := edgE_len L (rowsG L (clsNx (dnx t) cl) (kOf cl st) i) i
      have hle9 : i * L ≤ 200000 * 8 := Nat.mul_le_mul (by omega) hL
      have hes : Hid ((edgE L (rowsG L (clsNx (dnx t) cl) (kOf cl st) i) i).length ≤ 2000000) := by show _ ≤ _; omega
      have hId := hide (hI.out.keep (drewB wr))
      have hn9 : i ≤ 200000 := by omega
      obtain ⟨la, hlae⟩ : ∃ la, la = (accI (st.map (dac ac)) i).length := ⟨_, rfl⟩
      have hacc := hId.out.acc
      have hc6 := hId.out.b6.cell
      rw [← hlae] at hacc hla hc6
      have hsz := hId.out.below.size
      have hlaH := hide hlae
      have hstep := hide (fun (w9 : World) (vC' vO' vE' : Value) (st' : List Nat) (hM9 : CnM w3 w9 w4.heap.size w3.heap.size L vO' vC' vE' st' (accI (st.map (dac ac)) (i + 1)) (edgE L (rowsG L (clsNx (dnx t) cl) (kOf cl st) i) i ++ rowP (clsNx (dnx t) cl) (kOf cl st') (cl.getD q 0) i L)) (hk9 : kOf cl st' = rowL (clsNx (dnx t) cl) (cl.getD q 0) (kOf cl st) L) (hp9 : st <+: st') => show CnM w3 w9 w4.heap.size w3.heap.size L vO' vC' vE' st' (accI (st'.map (dac ac)) (i + 1)) (edgE L (rowsG L (clsNx (dnx t) cl) (kOf cl st') (i + 1)) (i + 1)) ∧ Exp L (clsNx (dnx t) cl) (cl.getD 0 0) (i + 1) (kOf cl st') from by
        refine ⟨?_, ?_⟩
        · rw [accI_ext (ac := st.map (dac ac)) (bc := st'.map (dac ac)) (by
            obtain ⟨u, rfl⟩ := hp9
            rw [List.map_append]
            exact List.prefix_append _ _) (by rw [List.length_map]; omega), ← rowP_done hE.out (kOf_pre hp9) (kOf_get hqH.out)]
          exact hM9
        · rw [hk9]
          exact .row hE.out (kOf_get hqH.out))
      clear hca hb hq hm hv2 hle hle9 hlae
      cases b
      all_goals
        go_wp2_with fail
        refine Reg.cP [0, 1, 0, 0, 12, 28, 63, 127] ?_
        first
        | (have hsu2 : accI (st.map (dac ac)) (i + 1) = accI (st.map (dac ac)) i := (by rw [hsu.out]; rfl)
           have hJ1 := hId.out
           rw [← hlaH.out, ← hsu2] at hJ1
           have hJ := hide hJ1
           clear hJ1 hsu2
           go_wp2_with fail)
        | (go_wp2_with (
            at_builtin
            refine wpList_app_new (w := wr.drew) row3 rfl _ _ rfl w3.heap.size (.slice AC la cC) la _ rfl hacc [.int .i64 (i : Int)] 1 rfl rfl (by simp [Value.oneCell']) (by omega) hsz ?_
            intro g' cap' w8 hown8 hk8 hmv8 hg8
            have hk8' : Kept wr.drew w8 (fun k => (Value.slice AC (accI (st.map (dac ac)) i).length cC).ownBlock = some k) := (by rw [← hlaH.out]; exact hk8)
            have hb68 := hId.out.b6.kept hk8' (own_blk_ne hId.out.acc hId.out.b6 (by decide))
            have hc68 := hb68.cell
            have hf68 := hb68.frozen 3
            have hl68 := hb68.lt
            have hJ1 := hId.out.addA (q := (i : Int)) (vC' := .slice (some ⟨g', 0, none⟩) (la + 1) cap') (w1 := w8) hk8' (by rw [← hlaH.out]; exact hown8) (by rw [← hlaH.out]; exact hmv8)
            obtain ⟨wX, hwX⟩ : ∃ wX, wX = w8.setCell ⟨w4.heap.size, 3, none⟩ (.slice (some ⟨g', 0, none⟩) (la + 1) cap') := ⟨_, rfl⟩
            have hsu2 : accI (st.map (dac ac)) (i + 1) = accI (st.map (dac ac)) i ++ [(i : Int)] := (by rw [hsu.out]; rfl)
            rw [← hsu2] at hJ1
            have hJ := hide hJ1
            clear hown8 hk8 hk8' hmv8 hb68 hwX hJ1 hsu2))
        rw [hmH.out]
        have hJ2 := hJ.out
        refine can_x hXH.out hn hL hJ2 hE.out hqH.out hl.out hes.out ?_ ?_
        · repeat (first | exact Reg.NoQ.body (fun _ _ h => h) (fun _ h => h) | refine Reg.NoQ.then ?_ | refine Reg.NoQ.inBlock ?_)
        · iterate 56 (intro _)
          intro w9 vO' vE' st' hM9 hk9 hp9 hl9
          have hst9 := hide (hstep.out w9 _ vO' vE' st' hM9 hk9 hp9)
          have hl9H := hide hl9
          clear hM9 hk9 hp9 hl9
          go_wp2_with fail
          exact ⟨⟨i + 1, st', _, vE', by go_num, by omega, hide hst9.out.1, hide hst9.out.2, hl9H⟩, by simp [intOf]; omega⟩
    · have hle0 := hE.out.inv.le
      have hkl : (kOf cl st).length = st.length := by simp [kOf]
      obtain rfl : i = st.length := by omega
      obtain ⟨AC, cC, rfl⟩ := slice_of_own hI.out.acc
      obtain ⟨AE, cE, rfl⟩ := slice_of_own hI.out.eds
      have hla := accI_len (st.map (dac ac)) st.length
      have hle := edgE_len L (rowsG L (clsNx (dnx t) cl) (kOf cl st) st.length) st.length
      have hle9 : st.length * L ≤ 200000 * 8 := Nat.mul_le_mul (by omega) hL
      have hge := hI.out.ge
      have hb6 := hI.out.b6
      have hc6 := hb6.cell
      have hf6 := hb6.frozen 1
      have hl6 := hb6.lt
      have hB8 := hb6.set_ 1 (.int .i64 (st.length : Int))
      have hK8 := (Kept.refl wr (fun k => k = w4.heap.size)).setCell (p := ⟨w4.heap.size, 1, none⟩) (fun _ => rfl) (.int .i64 (st.length : Int))
      have hBr8 := (hBr3.out.below hI.out.below).kept hK8 (by omega)
      obtain ⟨la, hlae⟩ : ∃ la, la = (accI (st.map (dac ac)) st.length).length := ⟨_, rfl⟩
      obtain ⟨le', hlee⟩ : ∃ le', le' = (edgE L (rowsG L (clsNx (dnx t) cl) (kOf cl st) st.length) st.length).length := ⟨_, rfl⟩
      obtain ⟨w8, hw8⟩ : ∃ w8, wr.setCell ⟨w4.heap.size, 1, none⟩ (.int .i64 (st.length : Int)) = w8 := ⟨_, rfl⟩
      rw [hw8] at hB8 hK8 hBr8
      rw [← hlae, ← hlee] at hB8 hc6
      have hc8 := hB8.cell
      have hf8 := hBr8.frozen
      have hl8 := hBr8.lt
      have hcr8 := hBr8.cell
      obtain ⟨wF, hwF, hBF, hKF⟩ := set5_facts hBr8 (.int .i64 (L : Int)) (.int .i64 (st.length : Int)) (.slice (some ⟨w3.heap.size, 0, none⟩) 1 1) (.slice AC la cC) (.slice AE le' cE)
      have hBFc := hBF.cell
      have hpl : (⟨(L : Int), (st.length : Int), [0], accI (st.map (dac ac)) st.length, edgE L (rowsG L (clsNx (dnx t) cl) (kOf cl st) st.length) st.length⟩ : WA) = plainW L (rowsG L (clsNx (dnx t) cl) (kOf cl st) st.length) (st.map (dac ac)) := by
        have := plainW_all L (rowsG L (clsNx (dnx t) cl) (kOf cl st) st.length) (st.map (dac ac))
        rw [List.length_map] at this
        exact this
      have hfin := hide (fun w'' (hk : Kept wF w'' (fun k => k < w.heap.size)) => by
        have h1 := hI.out.fin (N := st.length) (((hK8.mono fun b _ e => .inl e).trans (hKF.mono fun b _ e => .inr (by omega)) fun _ _ e => e).trans hk fun b _ e => .inr (by omega)) (by omega) (by omega)
        rw [hpl, ← hlae, ← hlee] at h1
        exact h1)
      have hsW := hI.out.below.size
      have hbF := hide ((b03.out.trans (hI.out.below.mono s3)).trans ((hK8.below (by omega) fun b hb e => by omega).trans (hKF.below (by have := hK8.size; omega) fun b hb e => by omega)))
      have hCT := hide (min_canT hXH.out.tab.ok (by rw [hacn.out]; exact hXH.out.w) (st := st) (fun s hs => by rw [hacn.out]; exact hl.out s hs) (show Disc L (clsNx (dnx t) cl) (cl.getD 0 0) (st.map fun s => cl.getD s 0) from by
        unfold Disc
        rw [List.length_map]
        exact hE.out))
      have hwH := hide hwF
      have hw8H := hide hw8
      clear hB8 hK8 hBr8 hBF hKF hwF hla hle hle9 hlae hlee hpl hI hE hb6
      go_wp2_with fail
      change bodyPost _ _ _ _ _ (set5 _ w1.heap.size (.int .i64 (L : Int)) (.int .i64 (st.length : Int)) (.slice (some ⟨w3.heap.size, 0, none⟩) 1 1) (.slice AC la cC) (.slice AE le' cE))
      first | rw [hwH.out] | rw [hw8H.out, hwH.out]
      refine bodyPost_ret (v := .agg #[.int .i64 (L : Int), .int .i64 (st.length : Int), .slice (some ⟨w3.heap.size, 0, none⟩) 1 1, .slice AC la cC, .slice AE le' cE]) (by simp [results, Tryz.results61, go_sem, hBFc]) rfl ⟨hbF.out, _, _, hCT.out, by rw [List.length_map]; exact hsl, hfin.out⟩
end Go.Proofs.YtakpmdmjbgipiaaGreatDoor
