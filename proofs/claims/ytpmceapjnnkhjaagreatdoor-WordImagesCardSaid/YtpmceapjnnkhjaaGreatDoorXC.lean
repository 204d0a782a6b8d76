/-
  Part XC of a proof.
-/
import Derived.Test.YtpmceapjnnkhjaaGreatDoorPA
import Derived.Test.YtpmceapjnnkhjaaGreatDoorVB
import Derived.Test.YtpmceapjnnkhjaaGreatDoorPS
import Derived.Test.YtpmceapjnnkhjaaGreatDoorVA
set_option maxHeartbeats 16000000
set_option maxRecDepth 100000
set_option linter.unusedVariables false
set_option linter.unusedSimpArgs false
namespace Go.Proofs.YtpmceapjnnkhjaaGreatDoor
open Go.RowKit
set_option maxHeartbeats 16000000
set_option maxRecDepth 100000
structure PqM (w0 wr : World) (vR vS vO : Value) (xs S O : List Int) : Prop where
 below : Below w0.heap.size w0 wr
 row : wr.ownsRow w0.heap.size 3 1 vR xs.length (xs.map (Value.int .i64))
 rS : wr.ownsRow w0.heap.size 3 1 vS S.length (S.map (Value.int .i64))
 rO : wr.ownsRow w0.heap.size 3 1 vO O.length (O.map (Value.int .i64))
 sepS : ∀ g, vS.ownBlock = some g → vR.ownBlock ≠ some g
 sepO : ∀ g, vO.ownBlock = some g → vR.ownBlock ≠ some g
section
variable {w0 wr w' : World} {vR vS vO : Value} {xs S O : List Int}
theorem PqM.keep (h : PqM w0 wr vR vS vO xs S O) (hb : Below wr.heap.size wr w') : PqM w0 w' vR vS vO xs S O :=
 ⟨h.below.trans (hb.mono h.below.size), own_below h.row hb, own_below h.rS hb, own_below h.rO hb, h.sepS, h.sepO⟩
theorem PqM.add {q : Int} {vR' : Value} {w1 : World} (h : PqM w0 wr vR vS vO xs S O) (hk1 : Kept wr w1 (fun k => vR.ownBlock = some k)) (ho : w1.ownsRow w0.heap.size 3 1 vR' (xs.length + 1) (xs.map (Value.int .i64) ++ [.int .i64 q])) (hmv : Moved wr vR vR') :
  PqM w0 w1 vR' vS vO (xs ++ [q]) S O := by
 refine ⟨h.below.trans (hk1.below h.below.size fun b hb e => by have := own_base h.row e; omega), ?_, hk1.ownsRow h.rS fun g hg e => h.sepS g hg e, hk1.ownsRow h.rO fun g hg e => h.sepO g hg e, fun g hg => moved_ne hmv (own_lt h.rS hg) (h.sepS g hg), fun g hg => moved_ne hmv (own_lt h.rO hg) (h.sepO g hg)⟩
 rw [List.length_append, List.map_append]
 exact ho
end
def pairR (n p : Int) (S : List Int) : List Int := S.map fun q => p * n + q
def pairL (n : Int) (O S : List Int) : List Int := O.flatMap fun p => pairR n p S
theorem pairR_len (n p : Int) (S : List Int) : (pairR n p S).length = S.length := by simp [pairR]
theorem pairR_succ {n p q : Int} {S : List Int} {i : Nat} (h : S[i]? = some q) : pairR n p (S.take (i + 1)) = pairR n p (S.take i) ++ [p * n + q] := by
 unfold pairR
 rw [take_snoc h, List.map_append]
 rfl
theorem pairL_succ {n p : Int} {O S : List Int} {i : Nat} (h : O[i]? = some p) : pairL n (O.take (i + 1)) S = pairL n (O.take i) S ++ pairR n p S := by
 unfold pairL
 rw [take_snoc h, List.flatMap_append]
 simp
theorem pairL_len (n : Int) (S : List Int) : ∀ O : List Int, (pairL n O S).length = O.length * S.length
 | [] => by simp [pairL]
 | p :: O => by
  have := pairL_len n S O
  unfold pairL at this ⊢
  rw [List.flatMap_cons, List.length_append, this, pairR_len, List.length_cons, Nat.succ_mul, Nat.add_comm]
theorem pq_in {w0 w : World} {m cS M N : Nat} {AS : Option Addr} {vR vO : Value} {xs S O : List Int} {p : Nat} (hM : PqM w0 w vR (.slice AS m cS) vO xs S O) (hm : m = S.length) (hx : xs.length + m ≤ 4000000) (hS : ∀ q ∈ S, ∃ k : Nat, q = (k : Int) ∧ k < N) (hN9 : N ≤ 200000) (hpM : p * N ≤ 200000 * 200000)
  {u0 u1 u3 u4 u5 u6 u8 u10 u11 u12 u13 u14 u15 u16 u17 u18 u19 u23 u24 u25 u26 u27 u28 u29 u30 u31 u32 u33 u34 u35 u36 : Value}
  {Q : Exit → Act → World → Prop} (hN : Reg.NoQ Q)
  (hQ : ∀ (x11 x22 x23 x24 x25 x26 x27 x28 x29 x30 x31 x32 x33 x34 : Value) (w' : World) (vR' : Value), PqM w0 w' vR' (.slice AS m cS) vO (xs ++ pairR (N : Int) (p : Int) S) S O → Q (.exit 2) ⟨List.toArray (u0 :: u1 :: (.int .i64 N) :: u3 :: u4 :: u5 :: u6 :: vR' :: u8 :: (.int .i64 p) :: u10 :: x11 :: u12 :: u13 :: u14 :: u15 :: u16 :: u17 :: u18 :: u19 :: (.slice AS m cS) :: (.int .i64 m) :: x22 :: x23 :: x24 :: x25 :: x26 :: x27 :: x28 :: x29 :: x30 :: x31 ::
   x32 :: x33 :: x34 :: u35 :: u36 :: []), []⟩ w') :
  (Code.loop (loopBody Tryz.f48 1)).wp Tryz.prog Q ⟨List.toArray (u0 :: u1 :: (.int .i64 N) :: u3 :: u4 :: u5 :: u6 :: vR :: u8 :: (.int .i64 p) :: u10 :: u11 :: u12 :: u13 :: u14 :: u15 :: u16 :: u17 :: u18 :: u19 :: (.slice AS m cS) :: (.int .i64 m) :: (.int .i64 0) :: u23 :: u24 :: u25 :: u26 :: u27 :: u28 :: u29 :: u30 ::
   u31 :: u32 :: u33 :: u34 :: u35 :: u36 :: []), []⟩ w := by
 conv => arg 2; arg 1; whnf
 have hMH := hide hM
 have hmH := hide hm
 have hSH := hide hS
 have hxH := hide hx
 have hm9 : m ≤ 4000000 := by omega
 clear hM hm hS hx
 go_loopw [7, 22] (fun vv ii wr => ∃ (i : Nat), ii = .int .i64 (i : Int) ∧ i ≤ m ∧ Hid (PqM w0 wr vv (.slice AS m cS) vO (xs ++ pairR (N : Int) (p : Int) (S.take i)) S O)) (fun _ ii _ => m - (intOf ii).toNat)
 case atStart =>
  refine ⟨0, rfl, Nat.zero_le _, ?_⟩
  have := hMH.out
  show PqM _ _ _ _ _ _ _ _
  simpa [pairR] using this
 case round =>
  obtain ⟨i, rfl, hi, hI⟩ := hrel
  obtain ⟨AR, cR, rfl⟩ := slice_of_own hI.out.row
  by_cases hlt : i < m
  ·obtain ⟨q0, hq⟩ := get_lt (l := S) (i := i) (by rw [← hmH.out]; exact hlt)
   obtain ⟨q, rfl, hqN⟩ := hSH.out q0 (List.mem_of_getElem? hq)
   have hrS := hI.out.rS
   rw [← hmH.out] at hrS
   obtain ⟨gS', cS', hv, hcS⟩ := own_get hrS (map_get (f := Value.int .i64) hq)
   injection hv with hv hv2 hv3
   subst hv hv3
   have hsu := hide (pairR_succ (n := (N : Int)) (p := (p : Int)) hq)
   have hpq : (p : Int) * (N : Int) + (q : Int) = ((p * N + q : Nat) : Int) := by push_cast; rfl
   have hpN : (p : Int) * (N : Int) = ((p * N : Nat) : Int) := by push_cast; rfl
   obtain ⟨k, hk⟩ : ∃ k, k = (xs ++ pairR (N : Int) (p : Int) (S.take i)).length := ⟨_, rfl⟩
   have hk1 : k + 1 ≤ 4000000 := by
    rw [hk, List.length_append, pairR_len, List.length_take]
    have := hxH.out
    omega
   have hrow := hI.out.row
   rw [← hk] at hrow
   rw [← hk]
   have hkH := hide hk
   have hsz := hI.out.below.size
   have hpqH := hide hpq
   obtain ⟨pn, hpn⟩ : ∃ pn, pn = p * N := ⟨_, rfl⟩
   rw [← hpn] at hpM hpN hpqH
   clear hq hrS hv2 hk hpq hpn
   go_wp2_with (
    at_builtin
    refine wpList_app_new (w := wr) row3 rfl _ _ rfl w0.heap.size (.slice AR k cR) k _ rfl hrow [.int .i64 ((pn + q : Nat) : Int)] 1 rfl rfl (by simp [Value.oneCell']) hk1 hsz ?_
    intro g' cap' w8 hown8 hk8 hmv8 hg8
    have hJ := hide (hI.out.add (q := ((pn + q : Nat) : Int)) (vR' := .slice (some ⟨g', 0, none⟩) (k + 1) cap') (w1 := w8) (by rw [← hkH.out]; exact hk8) (by rw [← hkH.out]; exact hown8) (by rw [← hkH.out]; exact hmv8))
    clear hown8 hk8 hmv8 hrow)
   refine ⟨⟨i + 1, by go_num, by omega, ?_⟩, by simp [intOf]; omega⟩
   rw [hsu.out, hpqH.out, ← List.append_assoc]
   exact hJ
  ·have hiE : i = m := by omega
   have hIe := hI.out
   obtain ⟨k, hk⟩ : ∃ k, k = (xs ++ pairR (N : Int) (p : Int) (S.take i)).length := ⟨_, rfl⟩
   rw [← hk] at hIe ⊢
   rw [List.take_of_length_le (by have := hmH.out; omega)] at hIe
   clear hk
   go_wp2_with fail
   first | exact hIe | exact hQ _ _ _ _ _ _ _ _ _ _ _ _ _ _ wr _ hIe
end Go.Proofs.YtpmceapjnnkhjaaGreatDoor
namespace Go.Proofs.YtpmceapjnnkhjaaGreatDoor
open Go.RowKit
set_option maxHeartbeats 16000000
set_option maxRecDepth 100000
theorem PqM.drop {w0 wr : World} {vR vS vO : Value} {xs S O : List Int} (h : PqM w0 wr vR vS vO xs S O) : PqM w0 wr vR sn0 vO xs [] O := ⟨h.below, h.row, own_nil, h.rO, fun g hg => by simp [sn0, Value.ownBlock] at hg, h.sepO⟩
theorem PqM.lay {w0 wr w3 : World} {vR vS vO : Value} {xs S O : List Int} {m : Nat} (h : PqM w0 wr vR sn0 vO xs [] O) (hb3 : Below wr.heap.size wr w3) (hown : w3.ownsRow wr.heap.size 3 1 vS m (S.map (Value.int .i64))) (hm : m = S.length) : PqM w0 w3 vR vS vO xs S O := by
 subst hm
 have h3 := h.keep hb3
 refine ⟨h3.below, h3.row, own_mono hown h.below.size, h3.rO, fun g hg e => ?_, h3.sepO⟩
 have h4 := own_base hown hg
 have h5 := own_lt h.row e
 omega
theorem pairs_any {w : World} {B1 B2 c1 c2 M N : Nat} {A1 A2 : Option Addr} {xs ys : List Int} (h1 : Sl w B1 1 encI A1 xs) (h2 : Sl w B2 1 encI A2 ys) (hB1 : B1 ≤ w.heap.size) (hB2 : B2 ≤ w.heap.size) (hl1 : xs.length ≤ 4000000) (hl2 : ys.length ≤ 4000000)
  (hx : ∀ p ∈ xs, ∃ k : Nat, p = (k : Int) ∧ k < M) (hy : ∀ q ∈ ys, ∃ k : Nat, q = (k : Int) ∧ k < N) (hM : M ≤ 200000) (hN : N ≤ 200000) (hmul : (sortU xs).length * (sortU ys).length ≤ 3000000) (hn1 : (sortU xs).length ≤ 4000000) (hn2 : (sortU ys).length ≤ 500000) :
  Calls Tryz.prog 48 #[.slice A1 xs.length c1, .slice A2 ys.length c2, .int .i64 (N : Int)] w (Ret fun r w' => Below w.heap.size w w' ∧ w'.ownsRow w.heap.size 3 1 r (pairL (N : Int) (sortU xs) (sortU ys)).length ((pairL (N : Int) (sortU xs) (sortU ys)).map (Value.int .i64))) := by
 have hc1 := sorted_any (c := c1) h1 hl1
 have hc2 := hide (fun (wx : World) (hb : Below w.heap.size w wx) => sorted_any (c := c2) (h2.keep (w' := wx) (fun p hp => hb.cell (by omega)) (Nat.le_refl _)) hl2)
 obtain ⟨O, hO⟩ : ∃ O, O = sortU xs := ⟨_, rfl⟩
 obtain ⟨S, hS⟩ : ∃ S, S = sortU ys := ⟨_, rfl⟩
 have hOm : ∀ p ∈ O, ∃ k : Nat, p = (k : Int) ∧ k < M := fun p hp => hx p (by rw [hO] at hp; exact mem_sortU.1 hp)
 have hSm : ∀ q ∈ S, ∃ k : Nat, q = (k : Int) ∧ k < N := fun q hq => hy q (by rw [hS] at hq; exact mem_sortU.1 hq)
 rw [← hO, ← hS] at hmul
 rw [← hO] at hn1
 rw [← hS] at hn2
 rw [← hO] at hc1
 rw [← hS] at hc2
 rw [← hO, ← hS]
 have hOmH := hide hOm
 have hSmH := hide hSm
 have hmulH := hide hmul
 have g1 := h1.1
 have g2 := h2.1
 obtain ⟨l2, hl2e⟩ : ∃ l2, l2 = ys.length := ⟨_, rfl⟩
 rw [← hl2e] at hc2 g2 ⊢
 obtain ⟨m, hm⟩ : ∃ m, m = S.length := ⟨_, rfl⟩
 obtain ⟨n, hn⟩ : ∃ n, n = O.length := ⟨_, rfl⟩
 rw [← hm] at hc2 hn2
 rw [← hn] at hn1 hc1
 have hmH := hide hm
 have hnH := hide hn
 clear h1 h2 hx hy hO hS hOm hSm hmul hl2e hm hn hl2
 go_enter Tryz.func48, Tryz.ntmps48
 go_wp2_with fail
 refine Calls.ret hc1 ?_
 rintro vO w1 ⟨hown, hb1⟩
 have hM1 : Hid (PqM w w1 sn0 sn0 vO [] [] O) := ⟨hb1, own_nil, own_nil, by rw [← hnH.out]; exact hown, fun g hg => by simp [sn0, Value.ownBlock] at hg, fun g _ h => by simp [sn0, Value.ownBlock] at h⟩
 obtain ⟨AO, cO, rfl⟩ := slice_of_own hown
 clear hc1 hown hb1
 go_wp2_with fail
 go_loopw [7, 15] (fun vv ii wr => ∃ (i : Nat), ii = .int .i64 (i : Int) ∧ i ≤ n ∧ Hid (PqM w wr vv sn0 (.slice AO n cO) (pairL (N : Int) (O.take i) S) [] O)) (fun _ ii _ => n - (intOf ii).toNat)
 case atStart => exact ⟨0, rfl, Nat.zero_le _, hM1⟩
 case round =>
  obtain ⟨i, rfl, hi, hI⟩ := hrel
  by_cases hlt : i < n
  ·obtain ⟨p0, hp⟩ := get_lt (l := O) (i := i) (by rw [← hnH.out]; exact hlt)
   obtain ⟨p, rfl, hpM⟩ := hOmH.out p0 (List.mem_of_getElem? hp)
   have hrO := hI.out.rO
   rw [← hnH.out] at hrO
   obtain ⟨gO', cO', hv, hcO⟩ := own_get hrO (map_get (f := Value.int .i64) hp)
   injection hv with hv hv2 hv3
   subst hv hv3
   have hsu := hide (pairL_succ (n := (N : Int)) (S := S) hp)
   have hcall := hc2.out wr hI.out.below
   have hpN : p * N ≤ 200000 * 200000 := Nat.mul_le_mul (by omega) hN
   clear hp hrO hv2
   go_wp2_with fail
   refine Calls.ret hcall ?_
   rintro vS w3 ⟨hown, hb3⟩
   have hlen : (pairL (N : Int) (O.take i) S).length + m ≤ 4000000 := by
    rw [pairL_len, List.length_take, ← hnH.out, Nat.min_eq_left hi, ← hmH.out]
    have h1 : i * m ≤ n * m := Nat.mul_le_mul_right m hi
    have h2 := hmulH.out
    rw [← hmH.out, ← hnH.out] at h2
    omega
   have hM3 := hide (hI.out.lay hb3 hown hmH.out)
   obtain ⟨AS, cS, rfl⟩ := slice_of_own hown
   clear hcall hown hb3
   go_wp2_with fail
   refine pq_in (M := M) hM3.out hmH.out hlen hSmH.out hN hpN ?_ ?_
   ·repeat (first | exact Reg.NoQ.body (fun _ _ h => h) (fun _ h => h) | refine Reg.NoQ.then ?_ | refine Reg.NoQ.inBlock ?_)
   ·iterate 14 (intro _)
    intro w4 vR' hM4
    have hM4H := hide hM4.drop
    clear hM4
    go_wp2_with fail
    refine ⟨⟨i + 1, by go_num, by omega, ?_⟩, by simp [intOf]; omega⟩
    rw [hsu.out]
    exact hM4H
  ·have hiE : i = n := by omega
   have hIe := hI.out
   obtain ⟨k, hk⟩ : ∃ k, k = (pairL (N : Int) (O.take i) S).length := ⟨_, rfl⟩
   have hb := hide hIe.below
   have hrow := hIe.row
   rw [List.take_of_length_le (by have := hnH.out; omega)] at hrow
   have hrowH := hide hrow
   clear hIe hrow hk
   go_wp2_with fail
   go_ret
   exact ⟨hb.out, hrowH.out⟩
end Go.Proofs.YtpmceapjnnkhjaaGreatDoor
namespace Go.Proofs.YtpmceapjnnkhjaaGreatDoor
def prE (n : Int) (m : Mv) (e : Edg) : Edg := ⟨m.frm * n + e.frm, m.out, m.to * n + e.to⟩
def prM (a : WA) (m : Mv) : List Edg := (a.edges.filter fun e => decide (e.letter = m.inn)).map (prE a.states m)
def prEs (t : TR) (a : WA) : List Edg := t.moves.flatMap (prM a)
def prW (t : TR) (a : WA) : WA := ⟨a.letters, t.states * a.states, pairL a.states t.start a.start, pairL a.states t.accept a.accept, prEs t a⟩
def imgN (t : TR) (a : WA) : NF := ⟨(prW t a).nf.L, (prW t a).nf.nx, pairL a.states (sortU t.start) (sortU a.start), (prW t a).nf.acc⟩
theorem inN_pr {m n s q : Int} (hs : inN m s = true) (hq : inN n q = true) : inN (m * n) (s * n + q) = true := by
 rw [inN_iff] at hs hq ⊢
 have h1 : (s + 1) * n ≤ m * n := Int.mul_le_mul_of_nonneg_right (by omega) (by omega)
 have h2 : 0 ≤ s * n := Int.mul_nonneg hs.1 (by omega)
 rw [Int.add_mul, Int.one_mul] at h1
 omega
theorem mem_pairL {n x : Int} {O S : List Int} : x ∈ pairL n O S ↔ ∃ p ∈ O, ∃ q ∈ S, p * n + q = x := by
 unfold pairL pairR
 simp only [List.mem_flatMap, List.mem_map]
theorem mem_prEs {t : TR} {a : WA} {e : Edg} : e ∈ prEs t a ↔ ∃ m ∈ t.moves, ∃ y ∈ a.edges, y.letter = m.inn ∧ prE a.states m y = e := by
 unfold prEs prM
 simp only [List.mem_flatMap, List.mem_map, List.mem_filter, decide_eq_true_eq, and_assoc]
theorem prM_len (a : WA) (m : Mv) : (prM a m).length ≤ a.edges.length := by
 unfold prM
 rw [List.length_map]
 exact List.length_filter_le _ _
theorem prEs_len (t : TR) (a : WA) : (prEs t a).length ≤ t.moves.length * a.edges.length := by
 unfold prEs
 generalize t.moves = l
 induction l with
 | nil => simp
 | cons m l ih =>
  rw [List.flatMap_cons, List.length_append, List.length_cons, Nat.succ_mul]
  have := prM_len a m
  omega
section
variable {t : TR} {a : WA}
theorem prW_in (ht : t.In) (ha : a.In) (hL : t.letters = a.letters) : (prW t a).In := by
 refine ⟨fun x hx => ?_, fun x hx => ?_, fun e he => ?_⟩
 ·obtain ⟨p, hp, q, hq, rfl⟩ := mem_pairL.1 hx
  exact inN_pr (ht.start p hp) (ha.start q hq)
 ·obtain ⟨p, hp, q, hq, rfl⟩ := mem_pairL.1 hx
  exact inN_pr (ht.accept p hp) (ha.accept q hq)
 ·obtain ⟨m, hm, y, hy, -, rfl⟩ := mem_prEs.1 he
  obtain ⟨h1, -, h3, h4⟩ := ht.move m hm
  obtain ⟨k1, -, k3⟩ := ha.edge y hy
  exact ⟨inN_pr h1 k1, by show inN a.letters m.out = true; rw [← hL]; exact h3, inN_pr h4 k3⟩
theorem prW_n (ht : 0 ≤ t.states) (ha : 0 ≤ a.states) : (prW t a).n = t.n * a.n := by
 unfold WA.n prW TR.n
 dsimp only
 obtain ⟨x, hx⟩ := Int.eq_ofNat_of_zero_le ht
 obtain ⟨y, hy⟩ := Int.eq_ofNat_of_zero_le ha
 rw [hx, hy]
 exact Int.toNat_natCast (x * y)
theorem prW_img (ht0 : 0 ≤ t.states) (ha0 : 0 ≤ a.states) (hL : t.letters = a.letters) : Img t a (prW t a).nf := by
 have hn := prW_n (t := t) (a := a) ht0 ha0
 have hae : a.states = (a.n : Int) := by unfold WA.n; omega
 refine ⟨?_, by rw [WA.nf_n, hn], ?_, ?_, ?_⟩
 ·show (prW t a).L = t.L
  unfold WA.L TR.L prW
  rw [hL]
 ·intro p q x hp hq hx m hm e he h1 h2 h3 h4
  have hxL : x < (prW t a).L := by
   unfold WA.L prW
   rw [← hL]
   exact hx
  rw [WA.nf_to _ (by rw [hn]; exact pr_lt hp hq) hxL, WA.mem_to]
  refine ⟨prE a.states m e, mem_prEs.2 ⟨m, hm, e, he, h3.symm, rfl⟩, ?_, h4, ?_⟩
  ·show m.frm * a.states + e.frm = _
   rw [h1, h2, pr_cast, hae]
  ·show m.to * a.states + e.to = _
   rw [hae]
 ·intro s hs q hq
  rw [← hae]
  exact mem_pairL.2 ⟨s, hs, q, hq, rfl⟩
 ·intro p q hp hq h1 h2
  rw [WA.nf_acc (by rw [hn]; exact pr_lt hp hq), decide_eq_true_iff]
  show _ ∈ pairL a.states t.accept a.accept
  rw [pr_cast, ← hae]
  exact mem_pairL.2 ⟨_, h1, _, h2, rfl⟩
theorem imgN_mem {x : Int} : x ∈ (imgN t a).start ↔ x ∈ (prW t a).nf.start := by
 show x ∈ pairL _ _ _ ↔ x ∈ pairL _ _ _
 rw [mem_pairL, mem_pairL]
 simp only [mem_sortU]
theorem imgN_st : (imgN t a).st = (prW t a).nf.st := by
 show marksM (imgN t a).n (imgN t a).start = marksM (prW t a).nf.n (prW t a).nf.start
 have hn : (imgN t a).n = (prW t a).nf.n := rfl
 rw [hn]
 unfold marksM
 refine List.map_congr_left fun q _ => ?_
 rw [Bool.eq_iff_iff, decide_eq_true_iff, decide_eq_true_iff]
 exact imgN_mem
theorem imgN_lang (w : List Nat) : (imgN t a).lang w = (prW t a).lang w := by
 show (imgN t a).has (runW (imgN t a).after (imgN t a).st w) = (prW t a).nf.has (runW (prW t a).nf.after (prW t a).nf.st w)
 rw [imgN_st]
 rfl
theorem imgN_large {k : Nat} : (imgN t a).Large k ↔ (prW t a).nf.Large k := by
 unfold NF.Large
 rw [imgN_st]
 exact Iff.rfl
theorem imgN_ok (h : (prW t a).In) : (imgN t a).OK := by
 have h1 := WA.nf_ok h
 exact ⟨h1.acc, h1.row, h1.to, fun x hx => h1.start x (imgN_mem.1 hx)⟩
end
end Go.Proofs.YtpmceapjnnkhjaaGreatDoor
