/-
  Part LC of a proof.
-/
import Derived.Test.YtpmceapjnnkhjaaDoorPA
import Derived.Test.YtpmceapjnnkhjaaDoorPN
import Derived.Test.YtpmceapjnnkhjaaDoorLB
set_option maxHeartbeats 16000000
set_option maxRecDepth 100000
set_option linter.unusedVariables false
set_option linter.unusedSimpArgs false
namespace Go.Proofs.YtpmceapjnnkhjaaDoor
open Go.RowKit
set_option maxHeartbeats 16000000
set_option maxRecDepth 100000
def MR (w : World) (m : List Bool) (r : Value) (w' : World) : Prop := Below w.heap.size w w' ∧ Marks w' w'.heap.size r m ∧ ∀ g, r.ownBlock = some g → w.heap.size ≤ g
theorem after_any {w : World} {v u : Value} {a : WA} {m : List Bool} {x : Nat} (h : IsWA w w.heap.size v a) (hin : a.In) (hS : 0 ≤ a.states ∧ a.states ≤ 200000) (hM : Marks w w.heap.size u m) (hm : m.length = a.n) (hx : x < a.L) :
  Calls Tryd.prog 58 #[v, u, .int .i64 (x : Int)] w (Ret fun r w' => MR w (a.nf.after m x) r w') := by
 obtain ⟨A1, c1, A2, c2, A3, c3, rfl, h1, h2, h3, h4⟩ := h
 obtain ⟨gm, hgm, rfl, hBm⟩ := hM
 obtain ⟨n, hn⟩ := Int.eq_ofNat_of_zero_le hS.1
 have hn80 : n ≤ 200000 := by omega
 have han : a.n = n := by unfold WA.n; rw [hn]; rfl
 have hfin := hide (fun k (hk : a.edges.length ≤ k) => WA.afterE_all hin (m := m) hx hk)
 obtain ⟨w1, hw1, hb1, hB1, hk1⟩ := box_blk w #[.int .i64 a.letters, .int .i64 a.states, .slice A1 a.start.length c1, .slice A2 a.accept.length c2, .slice A3 a.edges.length c3] 25
 obtain ⟨g, w2, hmk, hbl, hb2, hg⟩ := mk_bools w1 n (by omega)
 have hs1 := hb1.size
 have hs2 := hb2.size
 have hc1 := hB1.cell
 have hB2 := hB1.below hb2
 have hc2 := hB2.cell
 rw [hn] at hw1 hc1 hc2 hB1 hB2 ⊢
 rw [marks_new] at hbl
 have hb02 := hide (hb1.trans (hb2.mono hs1))
 have hB2H := hide hB2
 have hl2 := hB2.lt
 have hl1 := hB1.lt
 have hblH := hide (show Blk w2 g 4 ((a.afterE m (x : Int) 0).map Value.bool).toArray from by rw [WA.afterE_zero, han]; exact hbl)
 have hBmH := hide hBm
 have h3H := hide h3
 have hinH := hide hin
 have hnH := hide hn
 have hanH := hide han
 have hmH := hide (hm.trans han)
 have l3 := h3.1
 obtain ⟨ne, hne⟩ : ∃ ne, ne = a.edges.length := ⟨_, rfl⟩
 have hneH := hide hne
 have hml := hm.trans han
 rw [← hne] at hw1 hc1 hc2 hB2H l3 ⊢
 rw [hml]
 clear h1 h2 h3 h4 hk1 hb1 hb2 hB1 hB2 hbl hBm hin hS hn han hm hne hx hml
 go_enter Tryd.func58, Tryd.ntmps58
 go_wp2_with fail
 go_loopw [8] (fun ii wr => ∃ (k : Nat), ii = .int .i64 (k : Int) ∧ k ≤ ne ∧ Hid (Blk wr g 4 ((a.afterE m (x : Int) k).map Value.bool).toArray) ∧ Hid (Kept w2 wr (fun k => k = g))) (fun ii _ => ne - (intOf ii).toNat)
 case atStart => exact ⟨0, rfl, Nat.zero_le _, hblH, Kept.refl _ _⟩
 case round =>
  obtain ⟨k, rfl, hk, hA, hK⟩ := hrel
  have hb1r := hide (hb02.out.trans (hK.out.below (B := w.heap.size) (by have := hb02.out.size; omega) (fun b hb e => by omega)))
  have hBr : Blk wr w.heap.size 25 _ := hB2H.out.kept hK.out (by omega)
  have hcr := hBr.cell
  by_cases hlt : k < ne
  ·obtain ⟨b, off, e, rfl, hbk, hxe, hc⟩ := h3H.out.at (k := k) (by rw [← hneH.out]; exact hlt)
   have hcc := fun j hj => (hb1r.out.cell (by exact hbk)).trans (hc j hj)
   have q0 := hcc 0 (by omega)
   have q1 := hcc 1 (by omega)
   have q2 := hcc 2 (by omega)
   simp only [Nat.add_zero, encE] at q0 q1 q2
   obtain ⟨i1, i2, i3⟩ := hinH.out.edge e (List.mem_of_getElem? hxe)
   rw [hnH.out] at i1 i3
   obtain ⟨f, hf, hfn⟩ := inN_nat i1
   obtain ⟨t, ht, htn⟩ := inN_nat i3
   simp only [Int.toNat_natCast] at hfn htn
   have hst := hide (WA.afterE_step (a := a) (m := m) (x := (x : Int)) hxe (by omega))
   obtain ⟨bf, hbf⟩ := get_lt (l := m) (i := f) (by rw [hmH.out]; exact hfn)
   have hcf : wr.cell? ⟨gm, f, none⟩ = some (.bool bf) := (hb1r.out.cell (by exact hgm)).trans (Marks.cell hBmH.out hbf)
   have hgf : Hid (m.getD e.frm.toNat false = bf) := by show _ = _; rw [hf, Int.toNat_natCast, getD_some hbf]
   have htt : Hid (e.to.toNat = t) := by show _ = _; rw [ht, Int.toNat_natCast]
   obtain ⟨bt, hbt⟩ := get_lt (l := a.afterE m (x : Int) k) (i := t) (by rw [WA.afterE_len, hanH.out]; exact htn)
   have hct : wr.cell? ⟨g, t, none⟩ = some (.bool bt) := Marks.cell hA.out hbt
   have hfr := hA.out.frozen t
   have hlr := hA.out.lt
   obtain ⟨x0, x1, x2⟩ := e
   dsimp only at *
   subst hf ht
   have hset : Hid (Blk (wr.setCell ⟨g, t, none⟩ (.bool true)) g 4 (((a.afterE m (x : Int) k).set t true).map Value.bool).toArray) := by
    have := hA.out.set_ t (.bool true)
    rw [marks_set] at this
    exact this
   have hK2 := hide (hK.out.setCell (p := ⟨g, t, none⟩) (fun _ => rfl) (.bool true))
   clear hxe hc hcc i1 i2 i3 hbf hbt hBr
   by_cases hyx : x1 = (x : Int)
   ·cases bf
    ·have hst2 : Hid (a.afterE m (x : Int) (k + 1) = a.afterE m (x : Int) k) := by show _ = _; rw [hst.out, hgf.out]; simp
     go_wp2_with fail
     exact ⟨⟨k + 1, by go_num, by omega, by rw [hst2.out]; exact hA, hK⟩, by simp [intOf]; omega⟩
    ·have hst2 : Hid (a.afterE m (x : Int) (k + 1) = (a.afterE m (x : Int) k).set t true) := by show _ = _; rw [hst.out, hgf.out, htt.out]; simp [hyx]
     go_wp2_with fail
     exact ⟨⟨k + 1, by go_num, by omega, by rw [hst2.out]; exact hset, hK2⟩, by simp [intOf]; omega⟩
   ·have hst2 : Hid (a.afterE m (x : Int) (k + 1) = a.afterE m (x : Int) k) := by show _ = _; rw [hst.out]; simp [hyx]
    go_wp2_with fail
    exact ⟨⟨k + 1, by go_num, by omega, by rw [hst2.out]; exact hA, hK⟩, by simp [intOf]; omega⟩
  ·have hfi := hide (hfin.out k (by have := hneH.out; omega))
   clear hBr
   go_wp2_with fail
   go_ret
   have hA2 := hA.out
   rw [hfi.out] at hA2
   refine ⟨hb1r.out, ⟨g, hA2.lt, by rw [NF.after_len, a.nf_n, hanH.out]; rfl, hA2⟩, fun g' hg' => ?_⟩
   simp [Value.ownBlock] at hg'
   omega
theorem meets_any {w : World} {B c : Nat} {u : Value} {A : Option Addr} {m : List Bool} {l : List Int} (hM : Marks w w.heap.size u m) (h : Sl w B 1 encI A l) (hin : ∀ x ∈ l, inN m.length x = true) :
  Calls Tryd.prog 68 #[u, .slice A l.length c] w fun e w' => e = .returned (.bool (l.any fun s => m.getD s.toNat false)) ∧ w = w' := by
 obtain ⟨gm, hgm, rfl, hBm⟩ := hM
 have hn := h.1
 have hBmH := hide hBm
 have hI := hide hin
 obtain ⟨n, hne⟩ : ∃ n, n = l.length := ⟨_, rfl⟩
 have hnH := hide hne
 obtain ⟨mm, hmm⟩ : ∃ mm, mm = m.length := ⟨_, rfl⟩
 have hmmH := hide hmm
 obtain ⟨p, hp⟩ : ∃ p : Int → Bool, p = fun s => m.getD s.toNat false := ⟨_, rfl⟩
 have hpe := hide (show ∀ s, p s = m.getD s.toNat false from fun s => by rw [hp])
 rw [← hne] at hn ⊢
 rw [← hmm, ← hp]
 clear hBm hin hne hmm hp
 go_enter Tryd.func68, Tryd.ntmps68
 go_wp2_with fail
 go_loop [5] (fun ii => ∃ (k : Nat), ii = .int .i64 (k : Int) ∧ k ≤ n ∧ Hid (∀ s ∈ l.take k, p s = false)) (fun ii => n - (intOf ii).toNat)
 case atStart => exact ⟨0, rfl, Nat.zero_le _, hide (by simp)⟩
 case round =>
  obtain ⟨k, rfl, hk, hE⟩ := hrel
  by_cases hlt : k < n
  ·obtain ⟨z, hz⟩ := get_lt (l := l) (i := k) (by rw [← hnH.out]; exact hlt)
   obtain ⟨q, rfl, hq⟩ := inN_nat (hI.out z (List.mem_of_getElem? hz))
   simp only [Int.toNat_natCast] at hq
   obtain ⟨b0, o0, rfl, -, hc⟩ := sl_intat h hz
   obtain ⟨b, hb⟩ := get_lt hq
   have hcb := Marks.cell hBmH.out hb
   have hgb : Hid (p (q : Int) = b) := by show _ = _; rw [hpe.out, Int.toNat_natCast, getD_some hb]
   have hqm : q < mm := by rw [hmmH.out]; exact hq
   have hzH := hide hz
   clear hb hz hq
   cases b
   ·have hE2 : Hid (∀ s ∈ l.take (k + 1), p s = false) := fun s hs => by
     rw [take_snoc hzH.out] at hs
     rcases List.mem_append.1 hs with hs | hs
     ·exact hE.out s hs
     ·rw [List.mem_singleton.1 hs]; exact hgb.out
    go_wp2_with fail
    exact ⟨⟨k + 1, by go_num, by omega, hE2⟩, by simp [intOf]; omega⟩
   ·have hA : Hid (l.any p = true) := List.any_eq_true.2 ⟨_, List.mem_of_getElem? hzH.out, hgb.out⟩
    go_wp2_with fail
    go_ret
    exact ⟨by rw [hA.out]; rfl, rfl⟩
  ·have hA : Hid (l.any p = false) := by
    have hta := hE.out
    rw [List.take_of_length_le (by have := hnH.out; omega)] at hta
    exact List.any_eq_false.2 fun s hs => by rw [hta s hs]; decide
   go_wp2_with fail
   go_ret
   exact ⟨by rw [hA.out]; rfl, rfl⟩
end Go.Proofs.YtpmceapjnnkhjaaDoor
namespace Go.Proofs.YtpmceapjnnkhjaaDoor
open Go.RowKit
set_option maxHeartbeats 16000000
set_option maxRecDepth 100000
theorem accepts_any {v : Value} {a : WA} {w : World} {B c : Nat} {A : Option Addr} {u : List Nat} (h : IsWA w w.heap.size v a) (hok : a.ok = true) (hl : Sl w B 1 encI A (natL u)) (hB : B ≤ w.heap.size) (hu : okW a.L u) :
  Calls Tryd.prog 63 #[v, .slice A u.length c] w (Ret fun r w' => r = .bool (a.lang u) ∧ Below w.heap.size w w') := by
 have hWA := hide h
 obtain ⟨A1, c1, A2, c2, A3, c3, rfl, h1, h2, h3, h4⟩ := h
 obtain ⟨w1, hw1, hb1, hB1, hk1⟩ := box_blk w #[.int .i64 a.letters, .int .i64 a.states, .slice A1 a.start.length c1, .slice A2 a.accept.length c2, .slice A3 a.edges.length c3] 25
 have hs1 := hb1.size
 obtain ⟨⟨o1, o2, o3, o4⟩, hin⟩ := WA.ok_iff.1 hok
 obtain ⟨S, hS⟩ := Int.eq_ofNat_of_zero_le o3
 have hSn : a.n = S := by unfold WA.n; rw [hS]; rfl
 have hb1H := hide hb1
 have hB1H := hide hB1
 have hlH := hide hl
 have hinH := hide hin
 have huH := hide hu
 have h2H := hide h2
 have hmk := refMarks_any (c := c1) (n := S) (h1.keep (w' := w1) (fun p hp => hb1.cell hp) hs1) (Nat.le_refl _) (by omega) (by rw [← hS]; exact hin.start)
 have hst : Hid (marksM S a.start = a.nf.st) := by rw [← hSn]; exact a.st_marks.symm
 unfold MarksRet at hmk
 rw [hst.out] at hmk
 have hc1 := hB1.cell
 rw [hS] at hc1
 rw [hS] at hw1
 rw [hS]
 have hln : u.length ≤ 9223372036854775807 := by have := hl.1; simpa [natL] using this
 obtain ⟨n, hn⟩ : ∃ n, n = u.length := ⟨_, rfl⟩
 have hnH := hide hn
 rw [← hn] at hln ⊢
 clear h1 h2 h3 h4 hk1 hb1 hB1 hl hn hin hu
 go_enter Tryd.func63, Tryd.ntmps63
 go_wp2_with fail
 refine Calls.ret hmk ?_
 rintro vm w2 ⟨hb2, hM2, -⟩
 have hb02 := hide (hb1H.out.trans (hb2.mono hs1))
 have hB2 := hide (hB1H.out.below hb2)
 have hM2H := hide hM2
 have hc2 := hB2.out.cell
 rw [hS] at hc2
 clear hmk hb2 hM2 hc1
 go_wp2_with fail
 go_loopw [5, 6] (fun ss kk wr => ∃ (k : Nat), kk = .int .i64 (k : Int) ∧ k ≤ n ∧ Hid (Marks wr wr.heap.size ss (runW a.nf.after a.nf.st (u.take k))) ∧ Hid (Below w2.heap.size w2 wr)) (fun _ kk _ => n - (intOf kk).toNat)
 case atStart => exact ⟨0, rfl, Nat.zero_le _, hM2H, Below.refl _ _⟩
 case round =>
  obtain ⟨k, rfl, hk, hM, hb⟩ := hrel
  have hBr := hB2.out.below hb.out
  have hcr := hBr.cell
  rw [hS] at hcr
  have hb0r := hide (hb02.out.trans (hb.out.mono hb02.out.size))
  have hrl : Hid ((runW a.nf.after a.nf.st (u.take k)).length = a.nf.n) := a.nf.run_len (L := a.L) fun y hy => huH.out y (List.mem_of_mem_take hy)
  by_cases hlt : k < n
  ·obtain ⟨x, hx⟩ := get_lt (l := u) (i := k) (by rw [← hnH.out]; exact hlt)
   have hxl : (natL u)[k]? = some (x : Int) := map_get hx
   obtain ⟨b0, o0, rfl, hb0, hc⟩ := sl_intat hlH.out hxl
   have hcx := (hb0r.out.cell (p := ⟨b0, o0 + k, none⟩) (by simp only; omega)).trans hc
   have hxL := huH.out x (List.mem_of_getElem? hx)
   have hbd := hide (hb0r.out.trans ((drewB wr).mono hb0r.out.size))
   have hbd2 := hide (hb.out.trans ((drewB wr).mono hb.out.size))
   have hWr := hWA.out.keep (w' := wr.drew) (fun p hp => hbd.out.cell hp) hbd.out.size
   have haf := after_any hWr hinH.out ⟨o3, by omega⟩ (Marks.keep hM.out (drewB wr) (drewB wr).size) (by rw [hrl.out, a.nf_n]) hxL
   have hnx : Hid (a.nf.after (runW a.nf.after a.nf.st (u.take k)) x = runW a.nf.after a.nf.st (u.take (k + 1))) := (runW_take _ _ hx).symm
   rw [hnx.out, hS] at haf
   clear hx hxl hc hb0 hxL hBr hWr
   go_wp2_with fail
   refine Reg.cP [0, 0, 0, 0, 12, 28, 63, 127] ?_
   go_wp2_with fail
   refine Calls.ret haf ?_
   rintro vs w7 ⟨hb7, hM7, -⟩
   have hM7H := hide hM7
   have hb57 := hide (hbd2.out.trans (hb7.mono hbd2.out.size))
   clear haf hM7 hb7
   go_wp2_with fail
   exact ⟨⟨k + 1, by go_num, by omega, hM7H, hb57⟩, by simp [intOf]; omega⟩
  ·have hme := meets_any (c := c2) hM.out (h2H.out.keep (w' := wr) (fun p hp => hb0r.out.cell hp) hb0r.out.size) (by
    rw [hrl.out, a.nf_n, hSn, ← hS]
    exact hinH.out.accept)
   rw [WA.meets_has hinH.out] at hme
   have htk : Hid (u.take k = u) := List.take_of_length_le (by have := hnH.out; omega)
   rw [htk.out] at hme
   clear hBr
   go_wp2_with fail
   refine hme.mono ?_
   rintro r w8 ⟨rfl, rfl⟩
   clear hme
   go_wp2_with fail
   go_ret
   exact ⟨rfl, hb0r.out⟩
theorem refAccepts_any {v : Value} {a : WA} {w : World} {B c : Nat} {A : Option Addr} {l : List Int} (h : IsWA w w.heap.size v a) (hl : Sl w B 1 encI A l) (hB : B ≤ w.heap.size) :
  Calls Tryd.prog 30 #[v, .slice A l.length c] w (Ret fun r w' => r = a.accR l ∧ Below w.heap.size w w') := by
 have hWA := hide h
 obtain ⟨A1, c1, A2, c2, A3, c3, rfl, h1, h2, h3, h4⟩ := h
 obtain ⟨w1, hw1, hb1, hB1, hk1⟩ := box_blk w #[.int .i64 a.letters, .int .i64 a.states, .slice A1 a.start.length c1, .slice A2 a.accept.length c2, .slice A3 a.edges.length c3] 25
 have hs1 := hb1.size
 have hc1 := hB1.cell
 have hb1H := hide hb1
 have hB1H := hide hB1
 have hlH := hide hl
 have hv := refValidate_any (hWA.out.keep (w' := w1) (fun p hp => hb1.cell hp) hs1)
 have hln := hl.1
 obtain ⟨n, hn⟩ : ∃ n, n = l.length := ⟨_, rfl⟩
 have hnH := hide hn
 rw [← hn] at hln ⊢
 clear h1 h2 h3 h4 hk1 hb1 hB1 hl hn
 go_enter Tryd.func30, Tryd.ntmps30
 go_wp2_with fail
 refine Calls.ret hv ?_
 rintro r w2 ⟨rfl, hb2⟩
 have hb02 := hide (hb1H.out.trans (hb2.mono hs1))
 have hB2 := hide (hB1H.out.below hb2)
 have hc2 := hB2.out.cell
 clear hv hb2 hc1
 rcases hok : a.ok with _ | _
 ·have hR : Hid (a.accR l = .tuple #[.bool false, .int .i64 1]) := by show _ = _; unfold WA.accR WA.acc WA.accV; rw [hok]; rfl
  rw [show errno false = 1 from rfl]
  go_wp2_with fail
  go_ret2
  exact ⟨hR.out.symm, hb02.out⟩
 ·obtain ⟨⟨o1, o2, o3, o4⟩, hin⟩ := WA.ok_iff.1 hok
  have hden := below_any (c := c) (hlH.out.keep (w' := w2) (fun p hp => hb02.out.cell (by omega)) (Nat.le_refl _)) (n := a.letters) (by omega) (by omega)
  rw [← hnH.out] at hden
  rw [show errno true = 0 from rfl]
  have hokH := hide hok
  go_wp2_with fail
  refine hden.mono ?_
  rintro e w2' ⟨rfl, rfl⟩
  clear hden
  rcases hall : l.all (inN a.letters) with _ | _
  ·have hR : Hid (a.accR l = .tuple #[.bool false, .int .i64 1]) := by show _ = _; unfold WA.accR WA.acc WA.accV; rw [hall, hokH.out]; rfl
   go_wp2_with fail
   go_ret2
   exact ⟨hR.out.symm, hb02.out⟩
  ·obtain ⟨u, rfl, hu⟩ := all_word hall
   have huL : okW a.L u := hu
   have hR : Hid (a.accR (natL u) = .tuple #[.bool (a.lang u), .int .i64 0]) := by
    obtain ⟨e1, e2⟩ := WA.acc_word hokH.out (u := u) huL
    show _ = _
    unfold WA.accR
    rw [e1, e2]
    rfl
   have hac := accepts_any (c := c) (hWA.out.keep (w' := w2) (fun p hp => hb02.out.cell hp) hb02.out.size) hokH.out (hlH.out.keep (w' := w2) (fun p hp => hb02.out.cell (by omega)) (Nat.le_refl _)) (by have := hb02.out.size; omega) huL
   rw [show u.length = n by rw [hnH.out]; simp [natL]] at hac
   clear hall hu hok hin
   go_wp2_with fail
   refine Calls.ret hac ?_
   rintro vn w3 ⟨rfl, hb3⟩
   have hb03 := hide (hb02.out.trans (hb3.mono hb02.out.size))
   clear hac hb3
   go_wp2_with fail
   go_ret2
   exact ⟨hR.out.symm, hb03.out⟩
end Go.Proofs.YtpmceapjnnkhjaaDoor
