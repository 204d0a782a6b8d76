/-
  Part XK of a proof.
-/
import Derived.Test.YtpmceapjnnkhjaaDoorPA
import Derived.Test.YtpmceapjnnkhjaaDoorPN
set_option maxHeartbeats 16000000
set_option maxRecDepth 100000
set_option linter.unusedVariables false
set_option linter.unusedSimpArgs false
namespace Go.Proofs.YtpmceapjnnkhjaaDoor
open Go.RowKit
def WA.accV (a : WA) (l : List Int) : Bool := a.ok && l.all (inN a.letters)
def WA.acc (a : WA) (l : List Int) : Bool := a.accV l && a.lang (l.map Int.toNat)
def WA.accR (a : WA) (l : List Int) : Value := .tuple #[.bool (a.acc l), .int .i64 (errno (a.accV l))]
theorem natL_toNat (u : List Nat) : (natL u).map Int.toNat = u := by
 unfold natL
 rw [List.map_map]
 conv => rhs; rw [← List.map_id u]
 exact List.map_congr_left fun x _ => Int.toNat_natCast x
theorem WA.letters_L {a : WA} (h : a.ok = true) : a.letters = (a.L : Int) := by
 have := (WA.ok_iff.1 h).1
 unfold WA.L
 omega
theorem all_word {n : Int} {l : List Int} (h : l.all (inN n) = true) : ∃ u : List Nat, l = natL u ∧ okW n.toNat u := word_nat fun x hx => List.all_eq_true.1 h x hx
theorem word_all {n : Nat} {u : List Nat} (h : okW n u) : (natL u).all (inN (n : Int)) = true := by
 rw [List.all_eq_true]
 intro x hx
 obtain ⟨y, hy, rfl⟩ := List.mem_map.1 hx
 have := h y hy
 rw [inN_iff]
 omega
theorem WA.acc_word {a : WA} (h : a.ok = true) {u : List Nat} (hu : okW a.L u) : a.accV (natL u) = true ∧ a.acc (natL u) = a.lang u := by
 have h1 : a.accV (natL u) = true := by unfold WA.accV; rw [h, a.letters_L h, word_all hu]; rfl
 refine ⟨h1, ?_⟩
 unfold WA.acc
 rw [h1, natL_toNat]
 rfl
theorem WA.acc_cases {a : WA} (h : a.ok = true) (l : List Int) : (a.accV l = false ∧ a.acc l = false) ∨ ∃ u, l = natL u ∧ okW a.L u ∧ a.accV l = true ∧ a.acc l = a.lang u := by
 rcases hv : l.all (inN a.letters) with _ | _
 ·left
  have h1 : a.accV l = false := by unfold WA.accV; rw [h, hv]; rfl
  exact ⟨h1, by unfold WA.acc; rw [h1]; rfl⟩
 ·right
  obtain ⟨u, rfl, hu⟩ := all_word hv
  obtain ⟨h1, h2⟩ := WA.acc_word h (u := u) hu
  exact ⟨u, rfl, hu, h1, h2⟩
theorem WA.acc_same {a b : WA} (ha : a.ok = true) (hb : b.ok = true) (hl : b.L = a.L) (h : ∀ w, okW a.L w → b.lang w = a.lang w) (l : List Int) : b.accV l = a.accV l ∧ b.acc l = a.acc l := by
 have hle : b.letters = a.letters := by rw [a.letters_L ha, b.letters_L hb, hl]
 have hv : b.accV l = a.accV l := by unfold WA.accV; rw [ha, hb, hle]
 refine ⟨hv, ?_⟩
 rcases a.acc_cases ha l with ⟨h1, h2⟩ | ⟨u, rfl, hu, h1, h2⟩
 ·rw [h2]
  unfold WA.acc
  rw [hv, h1]
  rfl
 ·rw [h2, (WA.acc_word hb (u := u) (by rw [hl]; exact hu)).2, h u hu]
section
variable {a : WA} {t : List (List Nat)} {ac : List Bool}
theorem CanT.plain_ok (hok : a.ok = true) (hC : CanT a.L t ac a.lang) (hl : ac.length ≤ 400) : (plainW a.L t ac).ok = true := by
 have := (WA.ok_iff.1 hok).1
 exact plainW_ok hC.ok (by unfold WA.L; omega) (by unfold WA.L; omega) hl
theorem CanT.plain_lang (hC : CanT a.L t ac a.lang) {w : List Nat} (hw : okW a.L w) : (plainW a.L t ac).lang w = a.lang w := by
 rw [plainW_lang hC.ok hw]
 exact hC.can.lang w hw
theorem CanT.again {L : Nat} {Λ : List Nat → Bool} (hC : CanT L t ac Λ) {t' : List (List Nat)} {ac' : List Bool} (h : CanT (plainW L t ac).L t' ac' (plainW L t ac).lang) : plainW (plainW L t ac).L t' ac' = plainW L t ac := by
 rw [plainW_L] at h
 obtain ⟨rfl, rfl⟩ := h.unique hC fun w hw => by rw [plainW_lang hC.ok hw]; exact hC.can.lang w hw
 rw [plainW_L]
end
end Go.Proofs.YtpmceapjnnkhjaaDoor
namespace Go.Proofs.YtpmceapjnnkhjaaDoor
open Go.RowKit
set_option maxHeartbeats 16000000
set_option maxRecDepth 100000
theorem runW_take {S : Type} (δ : S → Nat → S) (s : S) {u : List Nat} {k x : Nat} (h : u[k]? = some x) : runW δ s (u.take (k + 1)) = δ (runW δ s (u.take k)) x := by
 rw [take_snoc h, runW_snoc]
theorem Accepts_any {v : Value} {a : WA} {w : World} {B c : Nat} {A : Option Addr} {l : List Int} (h : IsWA w w.heap.size v a) (he : a.edges.length ≤ 3000000) (hst : a.start.length ≤ 4000000) (hl : Sl w B 1 encI A l) (hB : B ≤ w.heap.size) :
  Calls Tryd.prog 29 #[v, .slice A l.length c] w (Ret fun r w' => r = a.accR l ∧ Below w.heap.size w w') := by
 have hWA := hide h
 obtain ⟨A1, c1, A2, c2, A3, c3, rfl, h1, h2, h3, h4⟩ := h
 obtain ⟨w1, hw1, hb1, hB1, hk1⟩ := box_blk w #[.int .i64 a.letters, .int .i64 a.states, .slice A1 a.start.length c1, .slice A2 a.accept.length c2, .slice A3 a.edges.length c3] 25
 have hs1 := hb1.size
 have hc1 := hB1.cell
 have hb1H := hide hb1
 have hB1H := hide hB1
 have hlH := hide hl
 have h1H := hide h1
 have hv := validate_any (hWA.out.keep (w' := w1) (fun p hp => hb1.cell hp) hs1)
 have hln := hl.1
 obtain ⟨n, hn⟩ : ∃ n, n = l.length := ⟨_, rfl⟩
 have hnH := hide hn
 rw [← hn] at hln ⊢
 clear h1 h2 h3 h4 hk1 hb1 hB1 hl hn
 go_enter Tryd.func29, Tryd.ntmps29
 go_wp2_with fail
 refine Calls.ret hv ?_
 rintro r w2 ⟨rfl, hb2⟩
 have hb02 := hide (hb1H.out.trans (hb2.mono hs1))
 have hB2 := hide (hB1H.out.below hb2)
 have hc2 := hB2.out.cell
 clear hv hb2 hc1
 rcases hok : a.ok with _ | _
 ·have hR : Hid (a.accR l = .tuple #[.bool false, .int .i64 1]) := by show _ = _; unfold WA.accR WA.acc WA.accV; rw [hok]; rfl
  rw [show errno false = 1 from rfl]
  go_wp2_with fail
  go_ret2
  exact ⟨hR.out.symm, hb02.out⟩
 ·obtain ⟨⟨o1, o2, o3, o4⟩, hin⟩ := WA.ok_iff.1 hok
  have hden := denote_any (c := c) a.letters (hlH.out.keep (w' := w2) (fun p hp => hb02.out.cell (by omega)) (Nat.le_refl _))
  rw [← hnH.out] at hden
  rw [show errno true = 0 from rfl]
  have hokH := hide hok
  go_wp2_with fail
  refine hden.mono ?_
  rintro e w2' ⟨rfl, rfl⟩
  clear hden
  rcases hall : l.all (inN a.letters) with _ | _
  ·have hR : Hid (a.accR l = .tuple #[.bool false, .int .i64 1]) := by show _ = _; unfold WA.accR WA.acc WA.accV; rw [hall, hokH.out]; rfl
   go_wp2_with fail
   go_ret2
   exact ⟨hR.out.symm, hb02.out⟩
  ·obtain ⟨u, rfl, hu⟩ := all_word hall
   have huL : Hid (okW a.L u) := hu
   have hR : Hid (a.accR (natL u) = .tuple #[.bool (a.lang u), .int .i64 0]) := by
    obtain ⟨e1, e2⟩ := WA.acc_word hokH.out (u := u) huL.out
    show _ = _
    unfold WA.accR
    rw [e1, e2]
    rfl
   have hnet := network_any (hWA.out.keep (w' := w2) (fun p hp => hb02.out.cell hp) hb02.out.size) hin ⟨o3, by omega⟩ ⟨by omega, o2⟩ he
   have hinH := hide hin
   clear hall hu hok hin
   go_wp2_with fail
   refine Calls.ret hnet ?_
   rintro vn w3 ⟨hN3, hb3⟩
   obtain ⟨B1, d1, B2, d2, B3, d3, rfl, -, -, -, -⟩ := id hN3
   obtain ⟨w4, hw4, hb4, hB4, hk4⟩ := box_blk w3 #[.int .i64 (a.nf.L : Int), .slice B1 a.nf.nx.length d1, .slice B2 a.nf.start.length d2, .slice B3 a.nf.acc.length d3] 79
   have hs3 := hb3.size
   have hs4 := hb4.size
   have hb24 := hb3.trans (hb4.mono hs3)
   have hb04 := hide (hb02.out.trans (hb24.mono hb02.out.size))
   have hN4 := hide (hN3.keep (w' := w4) (fun p hp => hb4.cell hp) hs4)
   have hc4 := (hB2.out.below hb24).cell
   have hB4H := hide hB4
   have h1w := h1H.out.keep (w' := w4) (fun p hp => hb04.out.cell hp) hb04.out.size
   have hsrt := sorted_any (c := c1) h1w hst
   have hst2 : Hid (sortU a.start = setL a.nf.st) := NF.sort_start (WA.nf_ok hinH.out)
   rw [hst2.out] at hsrt
   clear hnet hN3 hb3 hb4 hB4 hk4 h1w hb24
   go_wp2_with fail
   refine Calls.ret hsrt ?_
   rintro vs w5 ⟨hO5, hb5⟩
   obtain ⟨A5, d5, rfl, hS5⟩ := own_slI (l := setL a.nf.st) hO5 rfl (Nat.le_refl _) (by have := setL_len a.nf.st; rw [a.nf.st_len, a.nf_n] at this; unfold WA.n at this; omega)
   have hb05 := hide (hb04.out.trans (hb5.mono hb04.out.size))
   have hN5 := hide (hN4.out.keep (w' := w5) (fun p hp => hb5.cell hp) hb5.size)
   have hB5 := hide (hB4H.out.below hb5)
   have hS5H := hide hS5
   have hul : n = u.length := by rw [hnH.out]; simp [natL]
   have hulH := hide hul
   have hlH5 := hide (hlH.out.keep (w' := w5) (fun p hp => hb05.out.cell (by omega)) (Nat.le_refl _))
   clear hsrt hO5 hS5 hb5 hul
   go_wp2_with fail
   go_loopw [8, 28] (fun ss kk wr => ∃ (k : Nat) (A6 : Option Addr) (c6 : Nat), ss = .slice A6 (setL (runW a.nf.after a.nf.st (u.take k))).length c6 ∧ kk = .int .i64 (k : Int) ∧ k ≤ n ∧ Hid (Sl wr wr.heap.size 1 encI A6 (setL (runW a.nf.after a.nf.st (u.take k)))) ∧ Hid (Below w5.heap.size w5 wr)) (fun _ kk _ => n - (intOf kk).toNat)
   case atStart => exact ⟨0, A5, d5, rfl, rfl, Nat.zero_le _, hS5H, Below.refl _ _⟩
   case round =>
    obtain ⟨k, A6, c6, rfl, rfl, hk, hS, hb⟩ := hrel
    have hBr := hB5.out.below hb.out
    have hcr := hBr.cell
    have hNr := hide (hN5.out.keep (w' := wr) (fun p hp => hb.out.cell hp) hb.out.size)
    have hrl : Hid ((runW a.nf.after a.nf.st (u.take k)).length = a.nf.n) := a.nf.run_len (L := a.L) fun y hy => huL.out y (List.mem_of_mem_take hy)
    by_cases hlt : k < n
    ·obtain ⟨x, hx⟩ := get_lt (l := u) (i := k) (by rw [← hulH.out]; exact hlt)
     have hxl : (natL u)[k]? = some (x : Int) := map_get hx
     obtain ⟨b0, o0, rfl, hb0, hc⟩ := sl_intat hlH5.out hxl
     have hcx := (hb.out.cell (p := ⟨b0, o0 + k, none⟩) (by have := hb05.out.size; simp only; omega)).trans hc
     have hxL := huL.out x (List.mem_of_getElem? hx)
     have hstp := step_any (c := c6) hNr.out (WA.nf_ok hinH.out) hrl.out hS.out (Nat.le_refl _) (x := x) hxL (WA.cat_le he _ _ hrl.out hxL)
     have hnx : Hid (a.nf.after (runW a.nf.after a.nf.st (u.take k)) x = runW a.nf.after a.nf.st (u.take (k + 1))) := (runW_take _ _ hx).symm
     rw [hnx.out] at hstp
     clear hx hxl hc hb0 hxL hBr
     go_wp2_with fail
     refine Calls.ret hstp ?_
     rintro vs w7 ⟨hO7, hb7⟩
     obtain ⟨A7, d7, rfl, hS7⟩ := own_slI (l := setL (runW a.nf.after a.nf.st (u.take (k + 1)))) hO7 rfl (Nat.le_refl _) (by
      have := setL_len (runW a.nf.after a.nf.st (u.take (k + 1)))
      rw [← hnx.out, a.nf.after_len, a.nf_n] at this
      unfold WA.n at this
      rw [← hnx.out]
      omega)
     have hS7H := hide hS7
     have hb57 := hide (hb.out.trans (hb7.mono hb.out.size))
     clear hstp hO7 hS7 hb7
     go_wp2_with fail
     exact ⟨⟨k + 1, A7, d7, rfl, by go_num, by omega, hS7H, hb57⟩, by simp [intOf]; omega⟩
    ·have hacc := accepting_any (c := c6) hNr.out (WA.nf_ok hinH.out).acc hS.out (Nat.le_refl _) (setL_in hrl.out)
     rw [has_setL hrl.out] at hacc
     have htk : Hid (u.take k = u) := List.take_of_length_le (by have := hulH.out; omega)
     rw [htk.out] at hacc ⊢
     have hb0r := hide (hb05.out.trans (hb.out.mono hb05.out.size))
     clear hBr
     go_wp2_with fail
     refine Calls.ret hacc ?_
     rintro r w8 ⟨rfl, hb8⟩
     have hb08 := hide (hb0r.out.trans (hb8.mono hb0r.out.size))
     clear hacc hb8
     go_wp2_with fail
     go_ret2
     exact ⟨hR.out.symm, hb08.out⟩
end Go.Proofs.YtpmceapjnnkhjaaDoor
