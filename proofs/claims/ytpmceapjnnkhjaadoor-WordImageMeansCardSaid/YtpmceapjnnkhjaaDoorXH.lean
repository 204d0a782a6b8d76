/-
  Part XH of a proof.
-/
import Derived.BigQuiet
import Derived.Test.YtpmceapjnnkhjaaDoorPA
import Derived.Test.YtpmceapjnnkhjaaDoorXG
import Derived.Test.YtpmceapjnnkhjaaDoorXK
import Derived.Test.YtpmceapjnnkhjaaDoorVA
set_option maxHeartbeats 16000000
set_option maxRecDepth 100000
set_option linter.unusedVariables false
set_option linter.unusedSimpArgs false
namespace Go.Proofs.YtpmceapjnnkhjaaDoor
open Go.RowKit
set_option maxHeartbeats 16000000
set_option maxRecDepth 100000
theorem rel1_any {w : World} {g n c3 : Nat} {A3 : Option Addr} {acc : List Bool} {q : Nat} {b : Bool} (hB : Blk w g 70 #[.slice A3 n c3]) (h3 : Sl w w.heap.size 1 encB A3 acc) (hn : n = acc.length) (hq : acc[q]? = some b) :
  Calls Tryd.prog 66 #[.int .i64 (q : Int), .pointer (some ⟨g, 0, none⟩)] w fun e w' => e = .returned (.bool b) ∧ w = w' := by
 have hc := hB.cell
 have hlt := lt_of_get hq
 have hm := h3.1
 obtain ⟨bl, off, d, rfl, hbl, hd, hcc⟩ := h3.at hlt
 have hd2 : d = b := Option.some.inj (hd.symm.trans hq)
 subst hd2
 have hc0 := hcc 0 (by omega)
 simp only [Nat.mul_one, Nat.add_zero, encB] at hc0
 have hlt2 : q < n := by omega
 have hm2 : n ≤ 9223372036854775807 := by omega
 clear hn hq hd hcc h3 hlt hm
 go_enter Tryd.func66, Tryd.ntmps66
 go_wp2_with fail
 go_ret
 exact ⟨rfl, rfl⟩
theorem ridx_any {w : World} {B g n c3 c : Nat} {A A3 : Option Addr} {acc : List Bool} {l : List Int} (hB : Blk w g 70 #[.slice A3 n c3]) (h3 : Sl w w.heap.size 1 encB A3 acc) (hn : n = acc.length) (h : Sl w B 1 encI A l) (hin : ∀ x ∈ l, inN n x = true) :
  Calls Tryd.prog 94 #[.slice A l.length c, .func (.func 66) #[] #[.pointer (some ⟨g, 0, none⟩)]] w fun e w' => e = .returned (.int .i64 (if l.any (fun x => acc.getD x.toNat false) then ((l.findIdx fun x => acc.getD x.toNat false : Nat) : Int) else -1)) ∧ w = w' := by
 have hm := h.1
 have hBH := hide hB
 have h3H := hide h3
 have hnH := hide hn
 have hI := hide hin
 have hmf := run_mf
 obtain ⟨p, hp⟩ : ∃ p : Int → Bool, p = fun x => acc.getD x.toNat false := ⟨_, rfl⟩
 rw [← hp]
 have hpH := hide hp
 obtain ⟨R, hR⟩ : ∃ R : Int, Hid ((if l.any p then ((l.findIdx p : Nat) : Int) else -1) = R) := ⟨_, rfl⟩
 rw [hR.out]
 clear hB h3 hn hin hp
 go_enter Tryd.func94, Tryd.ntmps94
 go_wp2_with fail
 go_loop [8] (fun ii => ∃ (k : Nat), ii = .int .i64 (k : Int) ∧ k ≤ l.length ∧ Hid ((l.take k).any p = false)) (fun ii => l.length - (intOf ii).toNat)
 case atStart => exact ⟨0, rfl, Nat.zero_le _, rfl⟩
 case round =>
  obtain ⟨k, rfl, hk, hE⟩ := hrel
  by_cases hlt : k < l.length
  ·obtain ⟨b, off, x, rfl, hbb, hx, hc⟩ := h.at hlt
   have hc0 := hc 0 (by omega)
   simp only [Nat.mul_one, Nat.add_zero, encI] at hc0
   have hX := hide hx
   clear hx hc
   obtain ⟨q, rfl, hq⟩ := inN_nat (hI.out x (List.mem_of_getElem? hX.out))
   simp only [Int.toNat_natCast] at hq
   obtain ⟨bq, hbq⟩ := get_lt (l := acc) (i := q) (by rw [← hnH.out]; exact hq)
   have hBQ := hide hbq
   have hpq : Hid (p (q : Int) = bq) := by show _ = _; rw [hpH.out]; exact getD_some hbq
   clear hbq
   cases bq
   ·have hE2 : Hid ((l.take (k + 1)).any p = false) := by show _ = _; rw [take_snoc hX.out, List.any_append, hE.out]; simp [hpq.out]
    go_wp2_with (go_at_call 66; refine (rel1_any hBH.out h3H.out hnH.out hBQ.out).mono ?_; rintro e w' ⟨rfl, rfl⟩)
    exact ⟨⟨k + 1, by go_num, by omega, hE2⟩, by simp [intOf]; omega⟩
   ·have hA : Hid (l.any p = true) := List.any_eq_true.2 ⟨_, List.mem_of_getElem? hX.out, hpq.out⟩
    have hF : Hid (l.findIdx p = k) := by
     show _ = _
     rw [List.findIdx_eq hlt]
     refine ⟨?_, fun j hj => ?_⟩
     ·have := (List.getElem?_eq_some_iff.1 hX.out).2
      rw [this]; exact hpq.out
     ·have := List.any_eq_false.1 hE.out l[j] (List.mem_of_getElem? (i := j) (by rw [List.getElem?_take, if_pos hj, List.getElem?_eq_getElem]))
      simpa using this
    go_wp2_with (go_at_call 66; refine (rel1_any hBH.out h3H.out hnH.out hBQ.out).mono ?_; rintro e w' ⟨rfl, rfl⟩)
    go_ret
    exact ⟨by rw [← hR.out, hA.out, hF.out]; rfl, rfl⟩
  ·have hA : Hid (l.any p = false) := by show _ = _; rw [← hE.out, List.take_of_length_le (by omega)]
   go_wp2_with fail
   go_ret
   exact ⟨by rw [← hR.out, hA.out]; rfl, rfl⟩
theorem rcont_any {w : World} {B g n c3 c : Nat} {A A3 : Option Addr} {acc : List Bool} {l : List Int} (hB : Blk w g 70 #[.slice A3 n c3]) (h3 : Sl w w.heap.size 1 encB A3 acc) (hn : n = acc.length) (h : Sl w B 1 encI A l) (hin : ∀ x ∈ l, inN n x = true) :
  Calls Tryd.prog 65 #[.slice A l.length c, .func (.func 66) #[] #[.pointer (some ⟨g, 0, none⟩)]] w fun e w' => e = .returned (.bool (l.any (fun x => acc.getD x.toNat false))) ∧ w = w' := by
 have hidx := ridx_any (c := c) hB h3 hn h hin
 clear hB h3 hin hn
 obtain ⟨r, hr⟩ : ∃ r, (l.any (fun x => acc.getD x.toNat false)) = r := ⟨_, rfl⟩
 rw [hr] at hidx ⊢
 cases r
 all_goals
  simp only [Bool.false_eq_true, if_false, if_true] at hidx
  clear hr
  go_enter Tryd.func65, Tryd.ntmps65
  go_wp2_with (go_at_call 94; refine hidx.mono ?_; rintro e w' ⟨rfl, rfl⟩)
  go_ret
  exact ⟨by simp, rfl⟩
def TR.relV (t : TR) (u v : List Int) : Bool := t.ok && u.all (inN t.letters) && v.all (inN t.letters)
def TR.relR (t : TR) (u v : List Int) : Value := .tuple #[.bool (t.relV u v && decide (u.length = v.length) && t.rel u v), .int .i64 (errno (t.relV u v))]
theorem TR.setK_zero (t : TR) (u v : List Int) : t.setK u v 0 = marksM t.n t.start := by simp [TR.setK]
theorem Relates_any {vt : Value} {t : TR} {w : World} {B B' c c' : Nat} {A A' : Option Addr} {u v : List Int} (h : IsTR w w.heap.size vt t) (hu : Sl w B 1 encI A u) (hv : Sl w B' 1 encI A' v) (hB : B ≤ w.heap.size) (hB' : B' ≤ w.heap.size) :
  Calls Tryd.prog 33 #[vt, .slice A u.length c, .slice A' v.length c'] w (Ret fun r w' => r = t.relR u v ∧ Below w.heap.size w w') := by
 have hTR := hide h
 obtain ⟨A1, c1, A2, c2, A3, c3, rfl, h1, h2, h3, h4⟩ := h
 obtain ⟨w1, hw1, hb1, hB1, hk1⟩ := box_blk w #[.int .i64 t.letters, .int .i64 t.states, .slice A1 t.start.length c1, .slice A2 t.accept.length c2, .slice A3 t.moves.length c3] 45
 have hs1 := hb1.size
 have hc1 := hB1.cell
 have hb1H := hide hb1
 have hB1H := hide hB1
 have huH := hide hu
 have hvH := hide hv
 have h1H := hide h1
 have h2H := hide h2
 have h3H := hide h3
 have l3 := h3.1
 have hval := validateR_any (hTR.out.keep (w' := w1) (fun p hp => hb1.cell hp) hs1)
 have lu := hu.1
 have lv := hv.1
 obtain ⟨n, hn⟩ : ∃ n, n = u.length := ⟨_, rfl⟩
 obtain ⟨n', hn'⟩ : ∃ n', n' = v.length := ⟨_, rfl⟩
 have hnH := hide hn
 have hn'H := hide hn'
 rw [← hn] at lu ⊢
 rw [← hn'] at lv ⊢
 clear h1 h2 h3 h4 hk1 hb1 hB1 hu hv hn hn'
 go_enter Tryd.func33, Tryd.ntmps33
 go_wp2_with fail
 refine Calls.ret hval ?_
 rintro r w2 ⟨rfl, hb2⟩
 have hb02 := hide (hb1H.out.trans (hb2.mono hs1))
 have hB2 := hide (hB1H.out.below hb2)
 have hc2 := hB2.out.cell
 clear hval hb2 hc1
 rcases hok : t.ok with _ | _
 ·have hR : Hid (t.relR u v = .tuple #[.bool false, .int .i64 1]) := by show _ = _; unfold TR.relR TR.relV; rw [hok]; rfl
  rw [show errno false = 1 from rfl]
  go_wp2_with fail
  go_ret2
  exact ⟨hR.out.symm, hb02.out⟩
 ·have hd1 := denote_any (c := c) t.letters (huH.out.keep (w' := w2) (fun p hp => hb02.out.cell (by omega)) (Nat.le_refl _))
  have hd2 := denote_any (c := c') t.letters (hvH.out.keep (w' := w2) (fun p hp => hb02.out.cell (by omega)) (Nat.le_refl _))
  rw [← hnH.out] at hd1
  rw [← hn'H.out] at hd2
  rw [show errno true = 0 from rfl]
  have hokH := hide hok
  rcases ha1 : u.all (inN t.letters) with _ | _
  ·have hR : Hid (t.relR u v = .tuple #[.bool false, .int .i64 1]) := by show _ = _; unfold TR.relR TR.relV; rw [hok, ha1]; rfl
   rw [ha1] at hd1
   clear hok ha1
   go_wp2_with fail
   refine hd1.mono ?_
   rintro e w' ⟨rfl, rfl⟩
   go_wp2_with fail
   go_ret2
   exact ⟨hR.out.symm, hb02.out⟩
  ·rcases ha2 : v.all (inN t.letters) with _ | _
   ·have hR : Hid (t.relR u v = .tuple #[.bool false, .int .i64 1]) := by show _ = _; unfold TR.relR TR.relV; rw [hok, ha1, ha2]; rfl
    rw [ha1] at hd1
    rw [ha2] at hd2
    clear hok ha1 ha2
    go_wp2_with fail
    refine hd1.mono ?_
    rintro e w' ⟨rfl, rfl⟩
    go_wp2_with fail
    refine hd2.mono ?_
    rintro e w' ⟨rfl, rfl⟩
    go_wp2_with fail
    go_ret2
    exact ⟨hR.out.symm, hb02.out⟩
   ·have hV : Hid (t.relV u v = true) := by show _ = _; unfold TR.relV; rw [hok, ha1, ha2]; rfl
    have huI := hide (fun x (hx : x ∈ u) => List.all_eq_true.1 ha1 x hx)
    have hvI := hide (fun x (hx : x ∈ v) => List.all_eq_true.1 ha2 x hx)
    rw [ha1] at hd1
    rw [ha2] at hd2
    obtain ⟨⟨o1, o2, o3, o4⟩, hin⟩ := TR.ok_iff.1 hok
    have hinH := hide hin
    clear hok ha1 ha2 hin
    by_cases hnn : n = n'
    ·subst hnn
     obtain ⟨S, hS⟩ := Int.eq_ofNat_of_zero_le o3
     have hSn : Hid (t.n = S) := by show _ = _; unfold TR.n; rw [hS]; rfl
     have hSH := hide hS
     obtain ⟨nm, hnm⟩ : ∃ nm, nm = t.moves.length := ⟨_, rfl⟩
     have hnmH := hide hnm
     have hmk := marks_any (c := c1) (n := S) (h1H.out.keep (w' := w2) (fun p hp => hb02.out.cell hp) hb02.out.size) (Nat.le_refl _) (by omega) (by rw [← hS]; exact hinH.out.start)
     rw [← hnm] at hc2 l3
     rw [hS] at hc2
     have hB2' : Hid (Blk w2 w.heap.size 45 #[.int .i64 t.letters, .int .i64 (S : Int), .slice A1 t.start.length c1, .slice A2 t.accept.length c2, .slice A3 nm c3]) := by
      have := hB2.out
      rw [hS, ← hnm] at this
      exact this
     clear hnm hB2
     go_wp2_with fail
     refine hd1.mono ?_
     rintro e w' ⟨rfl, rfl⟩
     go_wp2_with fail
     refine hd2.mono ?_
     rintro e w' ⟨rfl, rfl⟩
     clear hd1 hd2
     go_wp2_with fail
     refine Calls.ret hmk ?_
     rintro vm w3 ⟨hb3, hM3, -⟩
     obtain ⟨gM, hgM, rfl, hBM⟩ := hM3
     rw [show (marksM S t.start).length = S by simp [marksM]]
     obtain ⟨w4, hw4, hb4, hB4, hk4⟩ := box_blk w3 #[.slice (some ⟨gM, 0, none⟩) S S] 70
     have hb34 := hb3.trans (hb4.mono hb3.size)
     have hb04 := hide (hb02.out.trans (hb34.mono hb02.out.size))
     have hB24 := hide (hB2'.out.below hb34)
     have hc4 := hB24.out.cell
     have hBs4 := hide hB4
     have hM4 := hide (hBM.below hb4)
     have hgM4 : gM < w4.heap.size := by have := (hBM.below hb4).lt; exact this
     have hg43 : w3.heap.size < w4.heap.size := hB4.lt
     have hw3s : w.heap.size < w3.heap.size := by have := (hB2'.out.below hb3).lt; exact this
     have hst0 : Hid (marksM S t.start = t.setK u v 0) := by show _ = _; rw [TR.setK_zero, hSn.out]
     rw [hst0.out] at hM4
     have hsl : ∀ k, (t.setK u v k).length = S := fun k => by rw [TR.setK_len, hSn.out]
     have hslH := hide hsl
     clear hmk hb3 hb4 hB4 hk4 hBM hb34 hsl
     go_wp2_with fail
     go_loopw [43] (fun kk wr => ∃ (k gm : Nat), kk = .int .i64 (k : Int) ∧ k ≤ n ∧ gm < wr.heap.size ∧ w3.heap.size ≠ gm ∧ Hid (Blk wr w3.heap.size 70 #[.slice (some ⟨gm, 0, none⟩) S S]) ∧ Hid (Blk wr gm 4 ((t.setK u v k).map Value.bool).toArray) ∧ Hid (Kept w4 wr (fun k => k = w3.heap.size))) (fun kk _ => n - (intOf kk).toNat)
     case atStart => exact ⟨0, gM, rfl, Nat.zero_le _, hgM4, by omega, hBs4, hM4, Kept.refl _ _⟩
     case round =>
      obtain ⟨k, gm, rfl, hk, hgm, hgne, hBs, hM, hK⟩ := hrel
      have hb0r := hide (hb04.out.trans (hK.out.below (B := w.heap.size) (by have := hb04.out.size; omega) (fun b hb e => by omega)))
      have hBr := hide (hB24.out.kept hK.out (by omega))
      have hcr := hBr.out.cell
      have hcs := hBs.out.cell
      by_cases hlt : k < n
      ·obtain ⟨x, hx⟩ := get_lt (l := u) (i := k) (by rw [← hnH.out]; exact hlt)
       obtain ⟨y, hy⟩ := get_lt (l := v) (i := k) (by rw [← hn'H.out]; exact hlt)
       obtain ⟨bu, ou, rfl, hbu, hcu⟩ := sl_intat huH.out hx
       obtain ⟨bv, ov, rfl, hbv, hcv⟩ := sl_intat hvH.out hy
       obtain ⟨gn, w5, hmk5, hbl5, hb5, hg5⟩ := mk_bools wr S (by omega)
       rw [marks_new] at hbl5
       have hb05 := hide (hb0r.out.trans (hb5.mono hb0r.out.size))
       have hB5 := hide (hBr.out.below hb5)
       have hBs5 := hide (hBs.out.below hb5)
       have hM5 := hide (hM.out.below hb5)
       have hN0 : Hid (Blk w5 gn 4 ((t.nextM (t.setK u v k) x y 0).map Value.bool).toArray) := by
        show Blk _ _ _ _
        rw [TR.nextM_zero, hSn.out]
        exact hbl5
       have hc5 := hB5.out.cell
       have hK5 : Hid (Kept w4 w5 (fun k => k = w3.heap.size)) := hK.out.trans (Kept.of_below hb5 (fun _ => False)) fun _ _ e => e.elim
       have hstp := hide (TR.setK_step (t := t) hx hy)
       have hcuH := hide hcu
       have hcvH := hide hcv
       have hsr5 := hb5.size
       have hgnl := hbl5.lt
       clear hx hy hcu hcv hb5 hbl5
       go_wp2_with fail
       go_loopw [52] (fun jj wz => ∃ (j : Nat), jj = .int .i64 (j : Int) ∧ j ≤ nm ∧ Hid (Blk wz gn 4 ((t.nextM (t.setK u v k) x y j).map Value.bool).toArray) ∧ Hid (Kept w5 wz (fun k => k = gn))) (fun jj _ => nm - (intOf jj).toNat)
       case atStart => exact ⟨0, rfl, Nat.zero_le _, hN0, Kept.refl _ _⟩
       case round =>
        rename World => wz
        obtain ⟨j, rfl, hj, hN, hKz⟩ := hrel
        have hsz1 := hb0r.out.size
        have hsz2 := hK.out.size
        have hb0z := hide (hb05.out.trans (hKz.out.below (B := w.heap.size) (by have := hb05.out.size; omega) (fun b hb e => by have := hb0r.out.size; omega)))
        have hBz := hide (hB5.out.kept hKz.out (by omega))
        have hBsz := hide (hBs5.out.kept hKz.out (by omega))
        have hMz := hide (hM5.out.kept hKz.out (by omega))
        have hcz := hBz.out.cell
        by_cases hjn : j < nm
        ·obtain ⟨b, off, e, rfl, hbk, hxe, hc⟩ := h3H.out.at (k := j) (by rw [← hnmH.out]; exact hjn)
         have hcc := fun i hi => (hb0z.out.cell (by exact hbk)).trans (hc i hi)
         have q0 := hcc 0 (by omega)
         have q1 := hcc 1 (by omega)
         have q2 := hcc 2 (by omega)
         have q3 := hcc 3 (by omega)
         simp only [Nat.add_zero, encM] at q0 q1 q2 q3
         obtain ⟨i1, i2, i3, i4⟩ := hinH.out.move e (List.mem_of_getElem? hxe)
         rw [hSH.out] at i1 i4
         obtain ⟨f, hf, hfn⟩ := inN_nat i1
         obtain ⟨to, ht, htn⟩ := inN_nat i4
         simp only [Int.toNat_natCast] at hfn htn
         have hst := hide (TR.nextM_step (t := t) (m := t.setK u v k) (x := x) (y := y) hxe (by omega))
         obtain ⟨bf, hbf⟩ := get_lt (l := t.setK u v k) (i := f) (by rw [hslH.out]; exact hfn)
         obtain ⟨bt, hbt⟩ := get_lt (l := t.nextM (t.setK u v k) x y j) (i := to) (by rw [TR.nextM_len, hSn.out]; exact htn)
         have hgf : Hid ((t.setK u v k).getD e.frm.toNat false = bf) := by show _ = _; rw [hf, Int.toNat_natCast, getD_some hbf]
         have htt : Hid (e.to.toNat = to) := by show _ = _; rw [ht, Int.toNat_natCast]
         obtain ⟨wb, hwb, hbb, hBb, hkb⟩ := box_blk wz #[.int .i64 e.frm, .int .i64 e.inn, .int .i64 e.out, .int .i64 e.to] 88
         have sb := hbb.size
         have g1 := Marks.cell (hMz.out.below hbb) hbf
         have g2 := Marks.cell (hN.out.below hbb) hbt
         have g3 := (hN.out.below hbb).frozen to
         have g4 := (hN.out.below hbb).lt
         have g5 := hBb.cell
         have g6 := (hBsz.out.below hbb).cell
         have g7 := (hb0z.out.cell (p := ⟨bu, ou + k, none⟩) (by simp only; omega)).trans hcuH.out
         have g8 := (hb0z.out.cell (p := ⟨bv, ov + k, none⟩) (by simp only; omega)).trans hcvH.out
         have g7b := (hbb.cell (p := ⟨bu, ou + k, none⟩) (by have := hb0z.out.size; simp only; omega)).trans g7
         have g8b := (hbb.cell (p := ⟨bv, ov + k, none⟩) (by have := hb0z.out.size; simp only; omega)).trans g8
         have hNb := hide (fun M => (hN.out.below hbb).kept ((Kept.refl wb (fun _ => False)).drewN M) id)
         have hKb : Hid (∀ M, Kept w5 (wb.drewN M) (fun k => k = gn)) := fun M => (hKz.out.trans hkb fun _ _ e => e.elim).drewN M
         have hset : Hid (∀ M, Blk ((wb.drewN M).setCell ⟨gn, to, none⟩ (.bool true)) gn 4 (((t.nextM (t.setK u v k) x y j).set to true).map Value.bool).toArray) := fun M => by
          have := (hNb.out M).set_ to (.bool true)
          rw [marks_set] at this
          exact this
         have hKs := hide (fun M => (hKb.out M).setCell (p := ⟨gn, to, none⟩) (fun _ => rfl) (.bool true))
         obtain ⟨x0, x1, x2, x3⟩ := e
         dsimp only at *
         subst hf ht
         have hxl : k < u.length := by rw [← hnH.out]; exact hlt
         clear hxe hc hcc i1 i2 i3 i4 hbf hbt hbb hBb hkb g7 g8
         cases bf with
         | false =>
          have hst2 : Hid (t.nextM (t.setK u v k) x y (j + 1) = t.nextM (t.setK u v k) x y j) := by show _ = _; rw [hst.out, hgf.out]; simp
          go_wp2_with fail
          go_quiet (fail)
          go_wp2_with fail
          exact ⟨⟨j + 1, by go_num, by omega, by rw [hst2.out]; exact hNb.out _, hKb.out _⟩, by simp [intOf]; omega⟩
         | true =>
          by_cases e1 : x1 = x
          ·by_cases e2 : x2 = y
           ·have hst2 : Hid (t.nextM (t.setK u v k) x y (j + 1) = (t.nextM (t.setK u v k) x y j).set to true) := by show _ = _; rw [hst.out, hgf.out, htt.out]; simp [e1, e2]
            subst e1 e2
            go_wp2_with fail
            go_quiet (fail)
            go_wp2_with fail
            exact ⟨⟨j + 1, by go_num, by omega, by rw [hst2.out]; exact hset.out _, hKs.out _⟩, by simp [intOf]; omega⟩
           ·have hst2 : Hid (t.nextM (t.setK u v k) x y (j + 1) = t.nextM (t.setK u v k) x y j) := by show _ = _; rw [hst.out, hgf.out]; simp [e1, e2]
            subst e1
            go_wp2_with fail
            go_quiet (fail)
            go_wp2_with fail
            exact ⟨⟨j + 1, by go_num, by omega, by rw [hst2.out]; exact hNb.out _, hKb.out _⟩, by simp [intOf]; omega⟩
          ·have hst2 : Hid (t.nextM (t.setK u v k) x y (j + 1) = t.nextM (t.setK u v k) x y j) := by show _ = _; rw [hst.out, hgf.out]; simp [e1]
           go_wp2_with fail
           go_quiet (fail)
           go_wp2_with fail
           exact ⟨⟨j + 1, by go_num, by omega, by rw [hst2.out]; exact hNb.out _, hKb.out _⟩, by simp [intOf]; omega⟩
        ·obtain rfl : nm = j := by omega
         have hstp2 : Hid (t.nextM (t.setK u v k) x y nm = t.setK u v (k + 1)) := by show _ = _; rw [hstp.out, hnmH.out]
         have hNf := hN.out
         rw [hstp2.out] at hNf
         have r1 := hBsz.out.cell
         have r2 := hBsz.out.frozen
         have r3 := hBsz.out.lt
         have hKf := hide ((hK5.out.trans hKz.out fun b hb e => by omega).setCell (p := ⟨w3.heap.size, 0, none⟩) (fun _ => rfl) (.slice (some ⟨gn, 0, none⟩) S S))
         have hBsf := hide (hBsz.out.set_ 0 (.slice (some ⟨gn, 0, none⟩) S S))
         have hNff := hide (hNf.kept ((Kept.refl wz (fun k => k = w3.heap.size)).setCell (p := ⟨w3.heap.size, 0, none⟩) (fun _ => rfl) (.slice (some ⟨gn, 0, none⟩) S S)) (by omega))
         have hgnz := hNff.out.lt
         clear hNf
         go_wp2_with fail
         exact ⟨⟨k + 1, gn, by go_num, by omega, hgnz, by omega, hBsf, hNff, hKf⟩, by simp [intOf]; omega⟩
      ·obtain rfl : n = k := by omega
       have hSl : Sl wr wr.heap.size 1 encB (some ⟨gm, 0, none⟩) (t.setK u v n) := by
        obtain ⟨A9, c9, e9, h9⟩ := Marks.sl (w := wr) (B := wr.heap.size) (u := .slice (some ⟨gm, 0, none⟩) S S) (m := t.setK u v n) ⟨gm, hgm, by rw [hslH.out], hM.out⟩ (by rw [hslH.out]; omega)
        injection e9 with e9
        subst e9
        exact h9
       have hcon := rcont_any (c := c2) hBs.out hSl (hslH.out n).symm (h2H.out.keep (w' := wr) (fun p hp => hb0r.out.cell hp) hb0r.out.size) (by rw [← hSH.out]; exact hinH.out.accept)
       have hR : Hid (t.relR u v = .tuple #[.bool (t.accept.any fun s => (t.setK u v n).getD s.toNat false), .int .i64 0]) := by
        show _ = _
        unfold TR.relR
        rw [hV.out, decide_eq_true (by rw [← hnH.out, ← hn'H.out])]
        unfold TR.rel
        rw [← hnH.out]
        simp [errno]
       generalize (t.accept.any fun s => (t.setK u v n).getD s.toNat false) = bb at hcon hR
       clear hSl
       go_wp2_with fail
       refine hcon.mono ?_
       rintro e w' ⟨rfl, rfl⟩
       go_wp2_with fail
       go_ret2
       exact ⟨hR.out.symm, hb0r.out⟩
    ·have hR : Hid (t.relR u v = .tuple #[.bool false, .int .i64 0]) := by
      show _ = _
      unfold TR.relR
      rw [hV.out, decide_eq_false (by rw [← hnH.out, ← hn'H.out]; exact hnn)]
      rfl
     go_wp2_with fail
     refine hd1.mono ?_
     rintro e w' ⟨rfl, rfl⟩
     go_wp2_with fail
     refine hd2.mono ?_
     rintro e w' ⟨rfl, rfl⟩
     clear hd1 hd2
     go_wp2_with fail
     go_ret2
     exact ⟨hR.out.symm, hb02.out⟩
end Go.Proofs.YtpmceapjnnkhjaaDoor
namespace Go.Proofs.YtpmceapjnnkhjaaDoor
open Go.RowKit
set_option maxHeartbeats 16000000
set_option maxRecDepth 100000
theorem refRelates_any {vt : Value} {t : TR} {w : World} {B B' c c' : Nat} {A A' : Option Addr} {u v : List Int} (h : IsTR w w.heap.size vt t) (hu : Sl w B 1 encI A u) (hv : Sl w B' 1 encI A' v) (hB : B ≤ w.heap.size) (hB' : B' ≤ w.heap.size) :
  Calls Tryd.prog 34 #[vt, .slice A u.length c, .slice A' v.length c'] w (Ret fun r w' => r = t.relR u v ∧ Below w.heap.size w w') := by
 have hTR := hide h
 obtain ⟨A1, c1, A2, c2, A3, c3, rfl, h1, h2, h3, h4⟩ := h
 obtain ⟨w1, hw1, hb1, hB1, hk1⟩ := box_blk w #[.int .i64 t.letters, .int .i64 t.states, .slice A1 t.start.length c1, .slice A2 t.accept.length c2, .slice A3 t.moves.length c3] 45
 have hs1 := hb1.size
 have hc1 := hB1.cell
 have hb1H := hide hb1
 have hB1H := hide hB1
 have huH := hide hu
 have hvH := hide hv
 have h1H := hide h1
 have h2H := hide h2
 have h3H := hide h3
 have l3 := h3.1
 have hval := refValidateR_any (hTR.out.keep (w' := w1) (fun p hp => hb1.cell hp) hs1)
 have lu := hu.1
 have lv := hv.1
 obtain ⟨n, hn⟩ : ∃ n, n = u.length := ⟨_, rfl⟩
 obtain ⟨n', hn'⟩ : ∃ n', n' = v.length := ⟨_, rfl⟩
 have hnH := hide hn
 have hn'H := hide hn'
 rw [← hn] at lu ⊢
 rw [← hn'] at lv ⊢
 clear h1 h2 h3 h4 hk1 hb1 hB1 hu hv hn hn'
 go_enter Tryd.func34, Tryd.ntmps34
 go_wp2_with fail
 refine Calls.ret hval ?_
 rintro r w2 ⟨rfl, hb2⟩
 have hb02 := hide (hb1H.out.trans (hb2.mono hs1))
 have hB2 := hide (hB1H.out.below hb2)
 have hc2 := hB2.out.cell
 clear hval hb2 hc1
 rcases hok : t.ok with _ | _
 ·have hR : Hid (t.relR u v = .tuple #[.bool false, .int .i64 1]) := by show _ = _; unfold TR.relR TR.relV; rw [hok]; rfl
  rw [show errno false = 1 from rfl]
  go_wp2_with fail
  go_ret2
  exact ⟨hR.out.symm, hb02.out⟩
 ·obtain ⟨⟨o1, o2, o3, o4⟩, hin⟩ := TR.ok_iff.1 hok
  have hd1 := below_any (c := c) (n := t.letters) (huH.out.keep (w' := w2) (fun p hp => hb02.out.cell (by omega)) (Nat.le_refl _)) (by omega) (by omega)
  have hd2 := below_any (c := c') (n := t.letters) (hvH.out.keep (w' := w2) (fun p hp => hb02.out.cell (by omega)) (Nat.le_refl _)) (by omega) (by omega)
  rw [← hnH.out] at hd1
  rw [← hn'H.out] at hd2
  rw [show errno true = 0 from rfl]
  have hokH := hide hok
  rcases ha1 : u.all (inN t.letters) with _ | _
  ·have hR : Hid (t.relR u v = .tuple #[.bool false, .int .i64 1]) := by show _ = _; unfold TR.relR TR.relV; rw [hok, ha1]; rfl
   rw [ha1] at hd1
   clear hok ha1
   go_wp2_with fail
   refine hd1.mono ?_
   rintro e w' ⟨rfl, rfl⟩
   go_wp2_with fail
   go_ret2
   exact ⟨hR.out.symm, hb02.out⟩
  ·rcases ha2 : v.all (inN t.letters) with _ | _
   ·have hR : Hid (t.relR u v = .tuple #[.bool false, .int .i64 1]) := by show _ = _; unfold TR.relR TR.relV; rw [hok, ha1, ha2]; rfl
    rw [ha1] at hd1
    rw [ha2] at hd2
    clear hok ha1 ha2
    go_wp2_with fail
    refine hd1.mono ?_
    rintro e w' ⟨rfl, rfl⟩
    go_wp2_with fail
    refine hd2.mono ?_
    rintro e w' ⟨rfl, rfl⟩
    go_wp2_with fail
    go_ret2
    exact ⟨hR.out.symm, hb02.out⟩
   ·have hV : Hid (t.relV u v = true) := by show _ = _; unfold TR.relV; rw [hok, ha1, ha2]; rfl
    have huI := hide (fun x (hx : x ∈ u) => List.all_eq_true.1 ha1 x hx)
    have hvI := hide (fun x (hx : x ∈ v) => List.all_eq_true.1 ha2 x hx)
    rw [ha1] at hd1
    rw [ha2] at hd2
    have hinH := hide hin
    clear hok ha1 ha2 hin
    by_cases hnn : n = n'
    ·subst hnn
     obtain ⟨S, hS⟩ := Int.eq_ofNat_of_zero_le o3
     have hSn : Hid (t.n = S) := by show _ = _; unfold TR.n; rw [hS]; rfl
     have hSH := hide hS
     obtain ⟨nm, hnm⟩ : ∃ nm, nm = t.moves.length := ⟨_, rfl⟩
     have hnmH := hide hnm
     have hmk := refMarks_any (c := c1) (n := S) (h1H.out.keep (w' := w2) (fun p hp => hb02.out.cell hp) hb02.out.size) (Nat.le_refl _) (by omega) (by rw [← hS]; exact hinH.out.start)
     rw [← hnm] at hc2 l3
     rw [hS] at hc2
     have hB2' : Hid (Blk w2 w.heap.size 45 #[.int .i64 t.letters, .int .i64 (S : Int), .slice A1 t.start.length c1, .slice A2 t.accept.length c2, .slice A3 nm c3]) := by
      have := hB2.out
      rw [hS, ← hnm] at this
      exact this
     clear hnm hB2
     go_wp2_with fail
     refine hd1.mono ?_
     rintro e w' ⟨rfl, rfl⟩
     go_wp2_with fail
     refine hd2.mono ?_
     rintro e w' ⟨rfl, rfl⟩
     clear hd1 hd2
     go_wp2_with fail
     refine Calls.ret hmk ?_
     rintro vm w3 ⟨hb3, hM3, -⟩
     obtain ⟨gM, hgM, rfl, hBM⟩ := hM3
     rw [show (marksM S t.start).length = S by simp [marksM]]
     have hb04 := hide (hb02.out.trans (hb3.mono hb02.out.size))
     have hB24 := hide (hB2'.out.below hb3)
     have hc4 := hB24.out.cell
     have hM4 := hide hBM
     have hgM4 : gM < w3.heap.size := hgM
     have hw3s : w.heap.size < w3.heap.size := (hB2'.out.below hb3).lt
     have hst0 : Hid (marksM S t.start = t.setK u v 0) := by show _ = _; rw [TR.setK_zero, hSn.out]
     rw [hst0.out] at hM4
     have hsl : ∀ k, (t.setK u v k).length = S := fun k => by rw [TR.setK_len, hSn.out]
     have hslH := hide hsl
     clear hmk hb3 hBM hsl
     go_wp2_with fail
     go_loopw [8, 9] (fun ss kk wr => ∃ (k gm : Nat), ss = .slice (some ⟨gm, 0, none⟩) S S ∧ kk = .int .i64 (k : Int) ∧ k ≤ n ∧ gm < wr.heap.size ∧ Hid (Blk wr gm 4 ((t.setK u v k).map Value.bool).toArray) ∧ Hid (Kept w3 wr (fun _ => False))) (fun _ kk _ => n - (intOf kk).toNat)
     case atStart => exact ⟨0, gM, rfl, rfl, Nat.zero_le _, hgM4, hM4, Kept.refl _ _⟩
     case round =>
      obtain ⟨k, gm, rfl, rfl, hk, hgm, hM, hK⟩ := hrel
      have hb0r := hide (hb04.out.trans (hK.out.below (B := w.heap.size) (by have := hb04.out.size; omega) (fun b hb e => e.elim)))
      have hBr := hide (hB24.out.kept hK.out id)
      have hcr := hBr.out.cell
      by_cases hlt : k < n
      ·obtain ⟨x, hx⟩ := get_lt (l := u) (i := k) (by rw [← hnH.out]; exact hlt)
       obtain ⟨y, hy⟩ := get_lt (l := v) (i := k) (by rw [← hn'H.out]; exact hlt)
       obtain ⟨bu, ou, rfl, hbu, hcu⟩ := sl_intat huH.out hx
       obtain ⟨bv, ov, rfl, hbv, hcv⟩ := sl_intat hvH.out hy
       obtain ⟨gn, w5, hmk5, hbl5, hb5, hg5⟩ := mk_bools wr S (by omega)
       rw [marks_new] at hbl5
       have hb05 := hide (hb0r.out.trans (hb5.mono hb0r.out.size))
       have hB5 := hide (hBr.out.below hb5)
       have hM5 := hide (hM.out.below hb5)
       have hN0 : Hid (Blk w5 gn 4 ((t.nextM (t.setK u v k) x y 0).map Value.bool).toArray) := by
        show Blk _ _ _ _
        rw [TR.nextM_zero, hSn.out]
        exact hbl5
       have hc5 := hB5.out.cell
       have hK5 : Hid (Kept w3 w5 (fun _ => False)) := hK.out.trans (Kept.of_below hb5 (fun _ => False)) fun _ _ e => e.elim
       have hstp := hide (TR.setK_step (t := t) hx hy)
       have hcuH := hide hcu
       have hcvH := hide hcv
       have hsr5 := hb5.size
       have hgnl := hbl5.lt
       clear hx hy hcu hcv hb5 hbl5
       go_wp2_with fail
       go_loopw [11] (fun jj wz => ∃ (j : Nat), jj = .int .i64 (j : Int) ∧ j ≤ nm ∧ Hid (Blk wz gn 4 ((t.nextM (t.setK u v k) x y j).map Value.bool).toArray) ∧ Hid (Kept w5 wz (fun k => k = gn))) (fun jj _ => nm - (intOf jj).toNat)
       case atStart => exact ⟨0, rfl, Nat.zero_le _, hN0, Kept.refl _ _⟩
       case round =>
        rename World => wz
        obtain ⟨j, rfl, hj, hN, hKz⟩ := hrel
        have hsz1 := hb0r.out.size
        have hsz2 := hK.out.size
        have hb0z := hide (hb05.out.trans (hKz.out.below (B := w.heap.size) (by have := hb05.out.size; omega) (fun b hb e => by have := hb0r.out.size; omega)))
        have hBz := hide (hB5.out.kept hKz.out (by omega))
        have hMz := hide (hM5.out.kept hKz.out (by omega))
        have hcz := hBz.out.cell
        by_cases hjn : j < nm
        ·obtain ⟨b, off, e, rfl, hbk, hxe, hc⟩ := h3H.out.at (k := j) (by rw [← hnmH.out]; exact hjn)
         have hcc := fun i hi => (hb0z.out.cell (by exact hbk)).trans (hc i hi)
         have q0 := hcc 0 (by omega)
         have q1 := hcc 1 (by omega)
         have q2 := hcc 2 (by omega)
         have q3 := hcc 3 (by omega)
         simp only [Nat.add_zero, encM] at q0 q1 q2 q3
         obtain ⟨i1, i2, i3, i4⟩ := hinH.out.move e (List.mem_of_getElem? hxe)
         rw [hSH.out] at i1 i4
         obtain ⟨f, hf, hfn⟩ := inN_nat i1
         obtain ⟨to, ht, htn⟩ := inN_nat i4
         simp only [Int.toNat_natCast] at hfn htn
         have hst := hide (TR.nextM_step (t := t) (m := t.setK u v k) (x := x) (y := y) hxe (by omega))
         obtain ⟨bf, hbf⟩ := get_lt (l := t.setK u v k) (i := f) (by rw [hslH.out]; exact hfn)
         obtain ⟨bt, hbt⟩ := get_lt (l := t.nextM (t.setK u v k) x y j) (i := to) (by rw [TR.nextM_len, hSn.out]; exact htn)
         have hgf : Hid ((t.setK u v k).getD e.frm.toNat false = bf) := by show _ = _; rw [hf, Int.toNat_natCast, getD_some hbf]
         have htt : Hid (e.to.toNat = to) := by show _ = _; rw [ht, Int.toNat_natCast]
         obtain ⟨wb, hwb, hbb, hBb, hkb⟩ := box_blk wz #[.int .i64 e.frm, .int .i64 e.inn, .int .i64 e.out, .int .i64 e.to] 88
         have sb := hbb.size
         have g1 := Marks.cell (hMz.out.below hbb) hbf
         have g2 := Marks.cell (hN.out.below hbb) hbt
         have g3 := (hN.out.below hbb).frozen to
         have g4 := (hN.out.below hbb).lt
         have g5 := hBb.cell
         have g7 := (hb0z.out.cell (p := ⟨bu, ou + k, none⟩) (by simp only; omega)).trans hcuH.out
         have g8 := (hb0z.out.cell (p := ⟨bv, ov + k, none⟩) (by simp only; omega)).trans hcvH.out
         have g7b := (hbb.cell (p := ⟨bu, ou + k, none⟩) (by have := hb0z.out.size; simp only; omega)).trans g7
         have g8b := (hbb.cell (p := ⟨bv, ov + k, none⟩) (by have := hb0z.out.size; simp only; omega)).trans g8
         have hNb := hide (fun M => (hN.out.below hbb).kept ((Kept.refl wb (fun _ => False)).drewN M) id)
         have hKb : Hid (∀ M, Kept w5 (wb.drewN M) (fun k => k = gn)) := fun M => (hKz.out.trans hkb fun _ _ e => e.elim).drewN M
         have hset : Hid (∀ M, Blk ((wb.drewN M).setCell ⟨gn, to, none⟩ (.bool true)) gn 4 (((t.nextM (t.setK u v k) x y j).set to true).map Value.bool).toArray) := fun M => by
          have := (hNb.out M).set_ to (.bool true)
          rw [marks_set] at this
          exact this
         have hKs := hide (fun M => (hKb.out M).setCell (p := ⟨gn, to, none⟩) (fun _ => rfl) (.bool true))
         obtain ⟨x0, x1, x2, x3⟩ := e
         dsimp only at *
         subst hf ht
         have hxl : k < u.length := by rw [← hnH.out]; exact hlt
         clear hxe hc hcc i1 i2 i3 i4 hbf hbt hbb hBb hkb g7 g8
         cases bf with
         | false =>
          have hst2 : Hid (t.nextM (t.setK u v k) x y (j + 1) = t.nextM (t.setK u v k) x y j) := by show _ = _; rw [hst.out, hgf.out]; simp
          go_wp2_with fail
          go_quiet (fail)
          go_wp2_with fail
          exact ⟨⟨j + 1, by go_num, by omega, by rw [hst2.out]; exact hNb.out _, hKb.out _⟩, by simp [intOf]; omega⟩
         | true =>
          by_cases e1 : x1 = x
          ·by_cases e2 : x2 = y
           ·have hst2 : Hid (t.nextM (t.setK u v k) x y (j + 1) = (t.nextM (t.setK u v k) x y j).set to true) := by show _ = _; rw [hst.out, hgf.out, htt.out]; simp [e1, e2]
            subst e1 e2
            go_wp2_with fail
            go_quiet (fail)
            go_wp2_with fail
            exact ⟨⟨j + 1, by go_num, by omega, by rw [hst2.out]; exact hset.out _, hKs.out _⟩, by simp [intOf]; omega⟩
           ·have hst2 : Hid (t.nextM (t.setK u v k) x y (j + 1) = t.nextM (t.setK u v k) x y j) := by show _ = _; rw [hst.out, hgf.out]; simp [e1, e2]
            subst e1
            go_wp2_with fail
            go_quiet (fail)
            go_wp2_with fail
            exact ⟨⟨j + 1, by go_num, by omega, by rw [hst2.out]; exact hNb.out _, hKb.out _⟩, by simp [intOf]; omega⟩
          ·have hst2 : Hid (t.nextM (t.setK u v k) x y (j + 1) = t.nextM (t.setK u v k) x y j) := by show _ = _; rw [hst.out, hgf.out]; simp [e1]
           go_wp2_with fail
           go_quiet (fail)
           go_wp2_with fail
           exact ⟨⟨j + 1, by go_num, by omega, by rw [hst2.out]; exact hNb.out _, hKb.out _⟩, by simp [intOf]; omega⟩
        ·obtain rfl : nm = j := by omega
         have hstp2 : Hid (t.nextM (t.setK u v k) x y nm = t.setK u v (k + 1)) := by show _ = _; rw [hstp.out, hnmH.out]
         have hNf := hN.out
         rw [hstp2.out] at hNf
         have hKf : Hid (Kept w3 wz (fun _ => False)) := hK5.out.trans hKz.out fun b hb e => by omega
         have hgnz := hNf.lt
         have hNff := hide hNf
         clear hNf
         go_wp2_with fail
         exact ⟨⟨k + 1, gn, rfl, by go_num, by omega, hgnz, hNff, hKf⟩, by simp [intOf]; omega⟩
      ·obtain rfl : n = k := by omega
       have hcon := meets_any (c := c2) (u := .slice (some ⟨gm, 0, none⟩) S S) (m := t.setK u v n) ⟨gm, hgm, by rw [hslH.out], hM.out⟩ (h2H.out.keep (w' := wr) (fun p hp => hb0r.out.cell hp) hb0r.out.size) (by rw [hslH.out, ← hSH.out]; exact hinH.out.accept)
       have hR : Hid (t.relR u v = .tuple #[.bool (t.accept.any fun s => (t.setK u v n).getD s.toNat false), .int .i64 0]) := by
        show _ = _
        unfold TR.relR
        rw [hV.out, decide_eq_true (by rw [← hnH.out, ← hn'H.out])]
        unfold TR.rel
        rw [← hnH.out]
        simp [errno]
       generalize (t.accept.any fun s => (t.setK u v n).getD s.toNat false) = bb at hcon hR
       go_wp2_with fail
       refine hcon.mono ?_
       rintro e w' ⟨rfl, rfl⟩
       go_wp2_with fail
       go_ret2
       exact ⟨hR.out.symm, hb0r.out⟩
    ·have hR : Hid (t.relR u v = .tuple #[.bool false, .int .i64 0]) := by
      show _ = _
      unfold TR.relR
      rw [hV.out, decide_eq_false (by rw [← hnH.out, ← hn'H.out]; exact hnn)]
      rfl
     go_wp2_with fail
     refine hd1.mono ?_
     rintro e w' ⟨rfl, rfl⟩
     go_wp2_with fail
     refine hd2.mono ?_
     rintro e w' ⟨rfl, rfl⟩
     clear hd1 hd2
     go_wp2_with fail
     go_ret2
     exact ⟨hR.out.symm, hb02.out⟩
end Go.Proofs.YtpmceapjnnkhjaaDoor
namespace Go.Proofs.YtpmceapjnnkhjaaDoor
open Go.RowKit
set_option maxHeartbeats 16000000
set_option maxRecDepth 100000
def TR.heavy (a : TR) : Bool := decide (600 < a.start.length) || decide (600 < a.accept.length) || decide (600 < a.moves.length)
theorem heavy_any {v : Value} {a : TR} {w : World} (h : IsTR w w.heap.size v a) : Calls Tryd.prog 32 #[v] w (Ret fun r w' => r = .bool a.heavy ∧ Below w.heap.size w w') := by
 obtain ⟨A1, c1, A2, c2, A3, c3, rfl, h1, h2, h3, h4⟩ := h
 obtain ⟨w1, hw1, hb1, hB1, hk1⟩ := box_blk w #[.int .i64 a.letters, .int .i64 a.states, .slice A1 a.start.length c1, .slice A2 a.accept.length c2, .slice A3 a.moves.length c3] 45
 have hc1 := hB1.cell
 have hb1H := hide hb1
 have l1 := h1.1
 have l2 := h2.1
 have l3 := h3.1
 have hbig := hide (show a.heavy = (decide (600 < a.start.length) || decide (600 < a.accept.length) || decide (600 < a.moves.length)) from rfl)
 generalize a.start.length = n1 at *
 generalize a.accept.length = n2 at *
 generalize a.moves.length = n3 at *
 clear h1 h2 h3 h4 hk1 hb1 hB1
 by_cases b1 : 600 < n1
 ·go_enter Tryd.func32, Tryd.ntmps32
  go_wp2_with fail
  go_ret
  exact ⟨by rw [hbig.out]; simp [b1], hb1H.out⟩
 ·by_cases b2 : 600 < n2
  ·go_enter Tryd.func32, Tryd.ntmps32
   go_wp2_with fail
   go_ret
   exact ⟨by rw [hbig.out]; simp [b2], hb1H.out⟩
  ·by_cases b3 : 600 < n3
   ·go_enter Tryd.func32, Tryd.ntmps32
    go_wp2_with fail
    go_ret
    exact ⟨by rw [hbig.out]; simp [b3]; omega, hb1H.out⟩
   ·go_enter Tryd.func32, Tryd.ntmps32
    go_wp2_with fail
    go_ret
    exact ⟨by rw [hbig.out]; simp [b1, b2, b3]; omega, hb1H.out⟩
theorem lawRelates {vt : Value} {t : TR} {w : World} {A A' : Option Addr} {c c' : Nat} {u v : List Int} (h : IsTR w w.heap.size vt t) (hu : Sl w w.heap.size 1 encI A u) (hv : Sl w w.heap.size 1 encI A' v) (hT : PowT w) :
  Calls Tryd.prog 9 #[vt, .slice A u.length c, .slice A' v.length c'] w (Ret fun v w' => v = .bool true ∧ Below w.heap.size w w') := by
 have hTR := hide h
 obtain ⟨A1, c1, A2, c2, A3, c3, rfl, h1, h2, h3, h4⟩ := h
 obtain ⟨w1, hw1, hb1, hB1, hk1⟩ := box_blk w #[.int .i64 t.letters, .int .i64 t.states, .slice A1 t.start.length c1, .slice A2 t.accept.length c2, .slice A3 t.moves.length c3] 45
 have hs1 := hb1.size
 have hc1 := hB1.cell
 have hb1H := hide hb1
 have hB1H := hide hB1
 have hTH := hide hT
 have huH := hide hu
 have hvH := hide hv
 have lu := hu.1
 have lv := hv.1
 have hbig := heavy_any (hTR.out.keep (w' := w1) (fun p hp => hb1.cell hp) hs1)
 obtain ⟨n, hn⟩ : ∃ n, n = u.length := ⟨_, rfl⟩
 obtain ⟨n', hn'⟩ : ∃ n', n' = v.length := ⟨_, rfl⟩
 have hnH := hide hn
 have hn'H := hide hn'
 rw [← hn] at lu ⊢
 rw [← hn'] at lv ⊢
 clear h1 h2 h3 h4 hk1 hb1 hB1 hu hv hn hn' hT
 go_enter Tryd.func9, Tryd.ntmps9
 go_wp2_with fail
 refine Calls.ret hbig ?_
 rintro r w2 ⟨rfl, hb2⟩
 have hb02 := hide (hb1H.out.trans (hb2.mono hs1))
 have hB2 := hide (hB1H.out.below hb2)
 have hc2 := hB2.out.cell
 clear hbig hb2 hc1
 cases hbg : t.heavy with
 | true =>
  have hkn := known_any (hTH.out.below hb02.out)
  go_wp2_with fail
  refine Calls.ret hkn ?_
  rintro r wk ⟨rfl, hbk⟩
  have hbK := hide (hb02.out.trans (hbk.mono hb02.out.size))
  clear hkn hbk
  go_wp2_with fail
  go_ret
  exact ⟨rfl, hbK.out⟩
 | false =>
  clear hbg
  by_cases hlen : 100 < n
  ·clear hc2
   have hkn := known_any (hTH.out.below hb02.out)
   go_wp2_with fail
   refine Calls.ret hkn ?_
   rintro r wk ⟨rfl, hbk⟩
   have hbK := hide (hb02.out.trans (hbk.mono hb02.out.size))
   clear hkn hbk
   go_wp2_with fail
   go_ret
   exact ⟨rfl, hbK.out⟩
  ·by_cases hlen' : 100 < n'
   ·clear hc2
    have hkn := known_any (hTH.out.below hb02.out)
    go_wp2_with fail
    refine Calls.ret hkn ?_
    rintro r wk ⟨rfl, hbk⟩
    have hbK := hide (hb02.out.trans (hbk.mono hb02.out.size))
    clear hkn hbk
    go_wp2_with fail
    go_ret
    exact ⟨rfl, hbK.out⟩
   ·have hv1 := Relates_any (c := c) (c' := c') (hTR.out.keep (w' := w2) (fun p hp => hb02.out.cell hp) hb02.out.size) (huH.out.keep (w' := w2) (fun p hp => hb02.out.cell hp) (Nat.le_refl _)) (hvH.out.keep (w' := w2) (fun p hp => hb02.out.cell hp) (Nat.le_refl _)) hb02.out.size hb02.out.size
    rw [← hnH.out, ← hn'H.out] at hv1
    go_wp2_with fail
    refine Calls.ret hv1 ?_
    rintro r w3 ⟨rfl, hb3⟩
    have hb03 := hide (hb02.out.trans (hb3.mono hb02.out.size))
    have hB3 := hide (hB2.out.below (hb3.mono (Nat.le_refl _)))
    have hc3 := hB3.out.cell
    have hv2 := refRelates_any (c := c) (c' := c') (hTR.out.keep (w' := w3) (fun p hp => hb03.out.cell hp) hb03.out.size) (huH.out.keep (w' := w3) (fun p hp => hb03.out.cell hp) (Nat.le_refl _)) (hvH.out.keep (w' := w3) (fun p hp => hb03.out.cell hp) (Nat.le_refl _)) hb03.out.size hb03.out.size
    rw [← hnH.out, ← hn'H.out] at hv2
    clear hv1 hb3 hc2
    unfold TR.relR at *
    generalize (t.relV u v && decide (u.length = v.length) && t.rel u v) = x1 at *
    generalize errno (t.relV u v) = e1 at *
    have heq : (e1 == e1) = true := by simp
    have heq2 : (x1 == x1) = true := by simp
    go_wp2_with fail
    refine Calls.ret hv2 ?_
    rintro r w4 ⟨rfl, hb4⟩
    have hb04 := hide (hb03.out.trans (hb4.mono hb03.out.size))
    have hB4 := hide (hB3.out.below (hb4.mono (Nat.le_refl _)))
    have hc4 := hB4.out.cell
    clear hv2 hb4 hc3
    go_wp2_with fail
    refine Reg.cC [0, 1, 0, 7, 15, 31, 63, 63, 255, 511, 1023, 2047, 2047, 8191, 16383, 32767, 65535, 131071, 262143] [0, 2, 1, 3, 4, 5, 6, 7, 8, 9, 10, 11, 12, 13, 14, 15, 16, 17, 18] ?_
    refine Reg.rest_walk' [0, 2] [1, 3, 4, 5, 6, 7, 8, 9, 10, 11, 12, 13, 14, 15, 16, 17, 18] rfl (by kernel_rfl) ?_
    intro Qf hQf
    go_wp2_with fail
    first | refine hQf _ _ ?_ | skip
    try clear hQf
    refine Reg.rest_act' 1 [3, 4, 5, 6, 7, 8, 9, 10, 11, 12, 13, 14, 15, 16, 17, 18] [2] rfl (by kernel_rfl) ?_
    intro Qf hQf
    simp only [gT, gS, gZ]
    have hb4d : Below w.heap.size w w4.drew := hb04.out.trans ((drewB w4).mono hb04.out.size)
    have hva := validateR_any (hTR.out.keep (w' := w4.drew) (fun p hp => hb4d.cell hp) hb4d.size)
    have hb4dH := hide hb4d
    clear hb4d
    go_wp2_with fail
    refine Calls.ret hva ?_
    rintro r w5 ⟨rfl, hb5⟩
    have hb05 := hide (hb4dH.out.trans (hb5.mono hb4dH.out.size))
    have hvb := refValidateR_any (hTR.out.keep (w' := w5) (fun p hp => hb05.out.cell hp) hb05.out.size)
    clear hva
    go_wp2_with fail
    first | refine hQf _ _ ⟨Reg.same_below hb5 [2] rfl, ?_⟩ | refine ⟨Reg.same_below hb5 [2] rfl, ?_⟩
    try clear hQf
    refine Reg.rest_act' 3 [4, 5, 6, 7, 8, 9, 10, 11, 12, 13, 14, 15, 16, 17, 18] [] rfl (by kernel_rfl) ?_
    intro Qf hQf
    simp only [gT, gS, gZ]
    clear hb5
    go_wp2_with fail
    refine Calls.ret hvb ?_
    rintro r w6 ⟨rfl, hb6⟩
    have hb06 := hide (hb05.out.trans (hb6.mono hb05.out.size))
    have hkn := known_any (hTH.out.below hb06.out)
    clear hvb hb6
    generalize errno t.ok = er at *
    have heq3 : (er == er) = true := by simp
    go_wp2_with fail
    first | refine hQf _ _ ⟨Reg.nm, ?_⟩ | refine ⟨Reg.nm, ?_⟩
    try clear hQf
    refine Reg.rest_walk' [4, 5, 6, 7, 8, 9, 10, 11, 12, 13, 14, 15] [16, 17, 18] rfl (by kernel_rfl) ?_
    intro Qf hQf
    go_wp2_with fail
    first | refine hQf _ _ ?_ | skip
    try clear hQf
    refine Reg.rest_act' 16 [17, 18] [] rfl (by kernel_rfl) ?_
    intro Qf hQf
    simp only [gT, gS, gZ]
    go_wp2_with fail
    refine Calls.ret hkn ?_
    rintro r w7 ⟨rfl, hb7⟩
    have hb07 := hide (hb06.out.trans (hb7.mono hb06.out.size))
    clear hkn hb7
    go_wp2_with fail
    first | refine hQf _ _ ⟨Reg.nm, ?_⟩ | refine ⟨Reg.nm, ?_⟩
    try clear hQf
    refine Reg.rest_walk' [17, 18] [] rfl (by kernel_rfl) ?_
    intro Qf hQf
    go_wp2_with fail
    first | refine hQf _ _ ?_ | skip
    try clear hQf
    refine Reg.rest_end ?_
    go_wp2_with fail
    go_ret
    exact ⟨rfl, hb07.out⟩
end Go.Proofs.YtpmceapjnnkhjaaDoor
