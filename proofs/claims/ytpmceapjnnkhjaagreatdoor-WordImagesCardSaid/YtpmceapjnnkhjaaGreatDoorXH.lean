/-
  Part XH of a proof.
-/
import Derived.BigQuiet
import Derived.Test.YtpmceapjnnkhjaaGreatDoorPA
import Derived.Test.YtpmceapjnnkhjaaGreatDoorPN
import Derived.Test.YtpmceapjnnkhjaaGreatDoorXG
set_option maxHeartbeats 16000000
set_option maxRecDepth 100000
set_option linter.unusedVariables false
set_option linter.unusedSimpArgs false
namespace Go.Proofs.YtpmceapjnnkhjaaGreatDoor
open Go.RowKit
def WA.accV (a : WA) (l : List Int) : Bool := a.ok && l.all (inN a.letters)
def WA.acc (a : WA) (l : List Int) : Bool := a.accV l && a.lang (l.map Int.toNat)
def WA.accR (a : WA) (l : List Int) : Value := .tuple #[.bool (a.acc l), .int .i64 (errno (a.accV l))]
theorem natL_toNat (u : List Nat) : (natL u).map Int.toNat = u := by
 unfold natL
 rw [List.map_map]
 conv => rhs; rw [← List.map_id u]
 exact List.map_congr_left fun x _ => Int.toNat_natCast x
theorem WA.letters_L {a : WA} (h : a.ok = true) : a.letters = (a.L : Int) := by
 have := (WA.ok_iff.1 h).1
 unfold WA.L
 omega
theorem all_word {n : Int} {l : List Int} (h : l.all (inN n) = true) : ∃ u : List Nat, l = natL u ∧ okW n.toNat u := word_nat fun x hx => List.all_eq_true.1 h x hx
theorem word_all {n : Nat} {u : List Nat} (h : okW n u) : (natL u).all (inN (n : Int)) = true := by
 rw [List.all_eq_true]
 intro x hx
 obtain ⟨y, hy, rfl⟩ := List.mem_map.1 hx
 have := h y hy
 rw [inN_iff]
 omega
theorem WA.acc_word {a : WA} (h : a.ok = true) {u : List Nat} (hu : okW a.L u) : a.accV (natL u) = true ∧ a.acc (natL u) = a.lang u := by
 have h1 : a.accV (natL u) = true := by unfold WA.accV; rw [h, a.letters_L h, word_all hu]; rfl
 refine ⟨h1, ?_⟩
 unfold WA.acc
 rw [h1, natL_toNat]
 rfl
theorem WA.acc_cases {a : WA} (h : a.ok = true) (l : List Int) : (a.accV l = false ∧ a.acc l = false) ∨ ∃ u, l = natL u ∧ okW a.L u ∧ a.accV l = true ∧ a.acc l = a.lang u := by
 rcases hv : l.all (inN a.letters) with _ | _
 ·left
  have h1 : a.accV l = false := by unfold WA.accV; rw [h, hv]; rfl
  exact ⟨h1, by unfold WA.acc; rw [h1]; rfl⟩
 ·right
  obtain ⟨u, rfl, hu⟩ := all_word hv
  obtain ⟨h1, h2⟩ := WA.acc_word h (u := u) hu
  exact ⟨u, rfl, hu, h1, h2⟩
theorem WA.acc_same {a b : WA} (ha : a.ok = true) (hb : b.ok = true) (hl : b.L = a.L) (h : ∀ w, okW a.L w → b.lang w = a.lang w) (l : List Int) : b.accV l = a.accV l ∧ b.acc l = a.acc l := by
 have hle : b.letters = a.letters := by rw [a.letters_L ha, b.letters_L hb, hl]
 have hv : b.accV l = a.accV l := by unfold WA.accV; rw [ha, hb, hle]
 refine ⟨hv, ?_⟩
 rcases a.acc_cases ha l with ⟨h1, h2⟩ | ⟨u, rfl, hu, h1, h2⟩
 ·rw [h2]
  unfold WA.acc
  rw [hv, h1]
  rfl
 ·rw [h2, (WA.acc_word hb (u := u) (by rw [hl]; exact hu)).2, h u hu]
section
variable {a : WA} {t : List (List Nat)} {ac : List Bool}
theorem CanT.plain_ok (hok : a.ok = true) (hC : CanT a.L t ac a.lang) (hl : ac.length ≤ 400) : (plainW a.L t ac).ok = true := by
 have := (WA.ok_iff.1 hok).1
 exact plainW_ok hC.ok (by unfold WA.L; omega) (by unfold WA.L; omega) hl
theorem CanT.plain_lang (hC : CanT a.L t ac a.lang) {w : List Nat} (hw : okW a.L w) : (plainW a.L t ac).lang w = a.lang w := by
 rw [plainW_lang hC.ok hw]
 exact hC.can.lang w hw
theorem CanT.again {L : Nat} {Λ : List Nat → Bool} (hC : CanT L t ac Λ) {t' : List (List Nat)} {ac' : List Bool} (h : CanT (plainW L t ac).L t' ac' (plainW L t ac).lang) : plainW (plainW L t ac).L t' ac' = plainW L t ac := by
 rw [plainW_L] at h
 obtain ⟨rfl, rfl⟩ := h.unique hC fun w hw => by rw [plainW_lang hC.ok hw]; exact hC.can.lang w hw
 rw [plainW_L]
end
end Go.Proofs.YtpmceapjnnkhjaaGreatDoor
namespace Go.Proofs.YtpmceapjnnkhjaaGreatDoor
open Go.RowKit
set_option maxHeartbeats 16000000
set_option maxRecDepth 100000
def TR.relV (t : TR) (u v : List Int) : Bool := t.ok && u.all (inN t.letters) && v.all (inN t.letters)
def TR.relR (t : TR) (u v : List Int) : Value := .tuple #[.bool (t.relV u v && decide (u.length = v.length) && t.rel u v), .int .i64 (errno (t.relV u v))]
theorem TR.setK_zero (t : TR) (u v : List Int) : t.setK u v 0 = marksM t.n t.start := by simp [TR.setK]
end Go.Proofs.YtpmceapjnnkhjaaGreatDoor
