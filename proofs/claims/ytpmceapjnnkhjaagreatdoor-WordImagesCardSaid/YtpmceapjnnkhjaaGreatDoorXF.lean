/-
  Part XF of a proof.
-/
import Derived.Test.YtpmceapjnnkhjaaGreatDoorPA
import Derived.Test.YtpmceapjnnkhjaaGreatDoorXD
import Derived.Test.YtpmceapjnnkhjaaGreatDoorXE
import Derived.Test.YtpmceapjnnkhjaaGreatDoorXH
set_option maxHeartbeats 16000000
set_option maxRecDepth 100000
set_option linter.unusedVariables false
set_option linter.unusedSimpArgs false
namespace Go.Proofs.YtpmceapjnnkhjaaGreatDoor
open Go.RowKit
set_option maxHeartbeats 16000000
set_option maxRecDepth 100000
theorem im_mem (w : World) (cs ds : Array Value) : ∃ w1 w2 w3, w.alloc (.cells cs 25) = w1 ∧ w1.alloc (.cells ds 28) = w2 ∧ w2.alloc (.cells #[.int .i64 0, .slice none 0 0, .slice none 0 0, .slice none 0 0] 56) = w3 ∧ Below w.heap.size w w3 ∧ Blk w3 w.heap.size 25 cs ∧ Blk w3 w1.heap.size 28 ds ∧ Blk w3 w2.heap.size 56 #[.int .i64 0, .slice none 0 0, .slice none 0 0, .slice none 0 0] ∧ w.heap.size < w1.heap.size ∧ w1.heap.size < w2.heap.size ∧ w2.heap.size < w3.heap.size := by
 obtain ⟨w1, h1, hb1, hB1, -⟩ := box_blk w cs 25
 obtain ⟨w2, h2, hb2, hB2, -⟩ := box_blk w1 ds 28
 obtain ⟨w3, h3, hb3, hB3, -⟩ := box_blk w2 #[.int .i64 0, .slice none 0 0, .slice none 0 0, .slice none 0 0] 56
 have l1 := hB1.lt
 have l2 := hB2.lt
 have l3 := hB3.lt
 exact ⟨w1, w2, w3, h1, h2, h3, hb1.trans ((hb2.mono (by omega)).trans (hb3.mono (by omega))), (hB1.below hb2).below hb3, hB2.below hb3, hB3, l1, l2, l3⟩
theorem prEs_succ {t : TR} {a : WA} {i : Nat} {m : Mv} (h : t.moves[i]? = some m) : (t.moves.take (i + 1)).flatMap (prM a) = (t.moves.take i).flatMap (prM a) ++ prM a m := by
 rw [take_snoc h, List.flatMap_append]
 simp
theorem fm_take_len {t : TR} {a : WA} (i : Nat) : ((t.moves.take i).flatMap (prM a)).length ≤ (prEs t a).length := by
 have := congrArg (fun l => (l.flatMap (prM a)).length) (List.take_append_drop i t.moves)
 simp only [List.flatMap_append, List.length_append] at this
 unfold prEs
 omega
theorem prM_by {a : WA} {m : Mv} {y : Nat} (h : m.inn = (y : Int)) : prM a m = (a.by a.edges.length y).map (prE a.states m) := by
 unfold prM WA.by
 rw [List.take_length, h]
theorem im_nf {wr : World} {B N gn gm base : Nat} {t : TR} {a : WA} {gi : Nat → Nat} {u : Nat → Nat → Value} {vS : Value} {b3 : Nat} (top : Blk wr gn 49 (rangeC N fun s => .slice (some ⟨gi s, 0, none⟩) a.L a.L)) (row : ∀ s, s < N → Blk wr (gi s) 22 (rangeC a.L (u s))) (own : ∀ s, s < N → ∀ x, x < a.L → wr.ownsRow b3 3 1 (u s x) (toL (prEs t a) s x).length ((toL (prEs t a) s x).map (Value.int .i64))) (hS : wr.ownsRow base 3 1 vS (pairL a.states (sortU t.start) (sortU a.start)).length ((pairL a.states (sortU t.start) (sortU a.start)).map (Value.int .i64)))
  (hm : Blk wr gm 4 ((marksM N (pairL a.states (sortU t.accept) (sortU a.accept))).map Value.bool).toArray) (hn : (prW t a).n = N) (hN9 : N ≤ 200000) (hL : a.L ≤ 8) (hsl : (pairL a.states (sortU t.start) (sortU a.start)).length ≤ 4000000) (hel : (prEs t a).length ≤ 3000000) (hB : wr.heap.size ≤ B) :
  IsNF wr B (.agg #[.int .i64 (a.L : Int), .slice (some ⟨gn, 0, none⟩) N N, vS, .slice (some ⟨gm, 0, none⟩) N N]) (imgN t a) := by
 have hrd := net_read (B := B) top row own hB (by omega) (by omega) (fun s hs x hx => by have := toL_len (prEs t a) s x; omega)
 have hacc : marksM N (pairL a.states (sortU t.accept) (sortU a.accept)) = (prW t a).nf.acc := by
  show _ = marksM (prW t a).n (pairL a.states t.accept a.accept)
  rw [hn]
  unfold marksM
  refine List.map_congr_left fun q _ => ?_
  rw [Bool.eq_iff_iff, decide_eq_true_iff, decide_eq_true_iff, mem_pairL, mem_pairL]
  simp only [mem_sortU]
 rw [hacc] at hm
 have hal : (prW t a).nf.acc.length = N := by rw [← hn]; exact marksM_len _ _
 have hnx : (imgN t a).nx = (List.range N).map fun s => (List.range a.L).map fun x => toL (prEs t a) s x := by
  show (List.range (prW t a).n).map _ = _
  rw [hn]
  rfl
 have hlt : gm < B := by have := hm.lt; omega
 obtain ⟨A3', c3', e3, hs3⟩ := Marks.sl (B := B) ⟨gm, hlt, rfl, hm⟩ (by omega)
 obtain ⟨AS, cS, eS, hsS⟩ := own_slI (B := B) hS rfl hB (by omega)
 rw [hal] at e3
 injection e3 with e3 _ e4
 subst e3
 rw [eS]
 have hl : (imgN t a).nx.length = N := by rw [hnx]; simp
 have hcS : (imgN t a).start.length ≤ cS := by
  show (pairL a.states (sortU t.start) (sortU a.start)).length ≤ cS
  rcases hS.2 with ⟨e, h0⟩ | ⟨g, cap, cur, e, -, -, hc, -⟩
  ·omega
  ·rw [eS] at e
   injection e with _ _ e
   omega
 refine ⟨some ⟨gn, 0, none⟩, N, AS, cS, _, N, ?_, by rw [hnx]; exact hrd, hsS, hs3, hcS⟩
 rw [hl]
 show _ = Value.agg #[_, _, _, .slice _ (prW t a).nf.acc.length _]
 rw [hal]
 rfl
end Go.Proofs.YtpmceapjnnkhjaaGreatDoor
namespace Go.Proofs.YtpmceapjnnkhjaaGreatDoor
open Go.RowKit
set_option maxHeartbeats 16000000
set_option maxRecDepth 100000
theorem NetS.keepT {w0 wr w2 : World} {n L gn : Nat} {gi : Nat → Nat} {u : Nat → Nat → Value} {l : Nat → Nat → List Int} {X : Nat → Prop} (h : NetS w0 wr n L gn gi u l) (hk : Kept wr w2 X) (h0 : ∀ b, b < w0.heap.size → X b → b = gn) (h1 : ∀ g t cs, X g → t ≠ 26 → ¬ Blk wr g t cs) : NetS w0 w2 n L gn gi u l :=
 ⟨h.kept.trans hk fun b hb e => h0 b hb e, h.top.kept hk fun e => h1 _ _ _ e (by decide) h.top, fun s hs => ⟨(h.row s hs).1.kept hk fun e => h1 _ _ _ e (by decide) (h.row s hs).1, (h.row s hs).2⟩, h.inj, fun s hs x hx => own_ty hk (h.own s hs x hx) fun g cs e => h1 _ _ _ e (by decide), h.sep⟩
theorem by_in {a : WA} (ha : a.In) (hS : 0 ≤ a.states) (k y : Nat) : ∀ e ∈ a.by k y, ∃ f t : Nat, e.frm = (f : Int) ∧ f < a.n ∧ e.to = (t : Int) ∧ t < a.n := fun e he => by
 have hm := List.mem_of_mem_take (List.mem_filter.1 he).1
 obtain ⟨i1, -, i3⟩ := ha.edge e hm
 obtain ⟨f, e1, e2⟩ := inN_nat i1
 obtain ⟨t, e3, e4⟩ := inN_nat i3
 exact ⟨f, t, e1, e2, e3, e4⟩
theorem image_any {vt va : Value} {t : TR} {a : WA} {w : World} (ht : IsTR w w.heap.size vt t) (ha : IsWA w w.heap.size va a) (tin : t.In) (ain : a.In) (hLL : t.letters = a.letters) (hLb : 1 ≤ a.letters ∧ a.letters ≤ 8) (hT : 0 ≤ t.states ∧ t.states ≤ 400) (hS : 0 ≤ a.states ∧ a.states ≤ 400)
    (k1 : t.start.length ≤ 4000) (k2 : t.accept.length ≤ 4000) (k3 : a.start.length ≤ 4000) (k4 : a.accept.length ≤ 4000) (m1 : t.start.length * a.start.length ≤ 3000000) (m2 : t.accept.length * a.accept.length ≤ 3000000) (me : t.moves.length * a.edges.length ≤ 1000000) (ke : a.edges.length ≤ 4000) (km : t.moves.length ≤ 4000) :
    Calls Tryz.prog 24 #[vt, va] w (Ret fun r w' => IsNF w' w'.heap.size r (imgN t a) ∧ Below w.heap.size w w') := by
  obtain ⟨A1, c1, A2, c2, A3, c3, rfl, h1, h2, h3, -⟩ := ht
  obtain ⟨B1, d1, B2, d2, B3, d3, rfl, j1, j2, j3, -⟩ := ha
  have hLe : a.letters = (a.L : Int) := by unfold WA.L; omega
  have hTe : t.states = (t.n : Int) := by unfold TR.n; omega
  have hSe : a.states = (a.n : Int) := by unfold WA.n; omega
  have hL8 : a.L ≤ 8 := by unfold WA.L; omega
  have htn : t.n ≤ 400 := by unfold TR.n; omega
  have han : a.n ≤ 400 := by unfold WA.n; omega
  have hpn := hide (prW_n (t := t) (a := a) hT.1 hS.1)
  have hpl := prEs_len t a
  have hPl := hide (show (prEs t a).length ≤ 1000000 from Nat.le_trans hpl me)
  have s1 := sortU_len t.start
  have s3 := sortU_len a.start
  have hsl := hide (show (pairL a.states (sortU t.start) (sortU a.start)).length ≤ 4000000 from by
    rw [pairL_len]
    have := Nat.mul_le_mul s1 s3
    omega)
  have tinH := hide tin
  have ainH := hide ain
  have hS0 := hide hS.1
  have i1 := tin.start
  have i2 := tin.accept
  have i3 := ain.start
  have i4 := ain.accept
  have il : ∀ e ∈ a.edges, inN a.L e.letter = true := fun e he => by have := (ain.edge e he).2.1; rwa [hLe] at this
  have im : ∀ m ∈ t.moves, ∃ f x y g : Nat, m = ⟨(f : Int), (x : Int), (y : Int), (g : Int)⟩ ∧ f < t.n ∧ x < a.L ∧ y < a.L ∧ g < t.n := fun m hm => by
    obtain ⟨q1, q2, q3, q4⟩ := tin.move m hm
    obtain ⟨f, e1, e2⟩ := inN_nat q1
    obtain ⟨x, e3, e4⟩ := inN_nat q2
    obtain ⟨y, e5, e6⟩ := inN_nat q3
    obtain ⟨g, e7, e8⟩ := inN_nat q4
    rw [hLL] at e4 e6
    obtain ⟨m1, m2, m3, m4⟩ := m
    dsimp only at *
    subst e1 e3 e5 e7
    exact ⟨f, x, y, g, rfl, e2, e4, e6, e8⟩
  rw [hTe] at i1 i2
  rw [hSe] at i3 i4
  have ilH := hide il
  have imH := hide im
  have i1H := hide i1
  have i2H := hide i2
  have i3H := hide i3
  have i4H := hide i4
  have hSeH := hide hSe
  have m1H := hide m1
  have m2H := hide m2
  have h1H := hide h1
  have h2H := hide h2
  have h3H := hide h3
  have j1H := hide j1
  have j2H := hide j2
  have j3H := hide j3
  have hln3 := h3.1
  have hlj3 := j3.1
  obtain ⟨n1, hn1⟩ : ∃ n, n = t.start.length := ⟨_, rfl⟩
  obtain ⟨n2, hn2⟩ : ∃ n, n = t.accept.length := ⟨_, rfl⟩
  obtain ⟨n3, hn3⟩ : ∃ n, n = t.moves.length := ⟨_, rfl⟩
  obtain ⟨n4, hn4⟩ : ∃ n, n = a.start.length := ⟨_, rfl⟩
  obtain ⟨n5, hn5⟩ : ∃ n, n = a.accept.length := ⟨_, rfl⟩
  obtain ⟨n6, hn6⟩ : ∃ n, n = a.edges.length := ⟨_, rfl⟩
  have hn1H := hide hn1
  have hn2H := hide hn2
  have hn3H := hide hn3
  have hn4H := hide hn4
  have hn5H := hide hn5
  have hn6H := hide hn6
  rw [hLL, hLe, hTe, hSe]
  rw [← hn1] at k1 ⊢
  rw [← hn2] at k2 ⊢
  rw [← hn3] at km hln3 ⊢
  rw [← hn4] at k3 ⊢
  rw [← hn5] at k4 ⊢
  rw [← hn6] at ke hlj3 ⊢
  obtain ⟨w1, w2, w3, hw1, hw2, hw3, hb3, hB1, hB2, hB4, l1, l2, l3⟩ := im_mem w #[.int .i64 (a.L : Int), .int .i64 (t.n : Int), .slice A1 n1 c1, .slice A2 n2 c2, .slice A3 n3 c3] #[.int .i64 (a.L : Int), .int .i64 (a.n : Int), .slice B1 n4 d1, .slice B2 n5 d2, .slice B3 n6 d3]
  have b03 := hide hb3
  have hB1H := hide hB1
  have hB2H := hide hB2
  have hB4H := hide hB4
  have f2 := hB2.cell
  clear hn1 hn2 hn3 hn4 hn5 hn6 hb3 hB1 hB2 hB4 h1 h2 h3 j1 j2 j3 i1 i2 i3 i4 il im tin ain hT hS hLe hTe hSe hLL hLb m1 m2 me s1 s3 hpl
  go_enter Tryz.func24, Tryz.ntmps24
  go_wp2_with fail
  refine im_open hB1H.out hB2H.out (h1H.out.keep (w' := w3) (fun p hp => b03.out.cell hp) (Nat.le_refl _)) (h2H.out.keep (w' := w3) (fun p hp => b03.out.cell hp) (Nat.le_refl _)) (j1H.out.keep (w' := w3) (fun p hp => b03.out.cell hp) (Nat.le_refl _)) (j2H.out.keep (w' := w3) (fun p hp => b03.out.cell hp) (Nat.le_refl _)) b03.out.size hn1H.out hn2H.out hn4H.out hn5H.out k1 k2 k3 k4 i1H.out i2H.out i3H.out i4H.out htn han (by rw [hn1H.out, hn4H.out]; exact m1H.out) (by rw [hn2H.out, hn5H.out]; exact m2H.out) (by repeat (first | exact Reg.NoQ.body (fun _ _ h => h) (fun _ h => h) | refine Reg.NoQ.then ?_ | refine Reg.NoQ.inBlock ?_)) ?_
  iterate 25 (intro _)
  intro w4 g6 gn gm vS hA hSo
  have b6 := hA.blk _ (List.mem_cons_self)
  have bn := hA.blk _ (List.mem_cons_of_mem _ List.mem_cons_self)
  have bm := hA.blk _ (List.mem_cons_of_mem _ (List.mem_cons_of_mem _ List.mem_cons_self))
  have hb34 := hA.below
  dsimp only at b6 bn bm
  have hN9 : t.n * a.n ≤ 400 * 400 := Nat.mul_le_mul htn han
  obtain ⟨N, hN⟩ : ∃ N, N = t.n * a.n := ⟨_, rfl⟩
  rw [← hN] at b6 bn bm hN9
  rw [replR] at bn
  have hNA : NetA w4 w4 N a.L 0 gn (fun _ => 0) := by
    refine ⟨Kept.refl _ _, ?_, fun s hs => absurd hs (by omega), fun s hs => absurd hs (by omega)⟩
    rw [rangeC_congr (g := fun _ => Value.slice none 0 0) (fun s _ => by simp)]
    exact bn.1
  have hNAH := hide hNA
  have b04 := hide (b03.out.trans (hb34.mono b03.out.size))
  have hB14 := hide (hB1H.out.below hb34)
  have hB24 := hide (hB2H.out.below hb34)
  have hB44 := hide (hB4H.out.below hb34)
  have b6H := hide b6
  have bnH := hide bn
  have bmH := hide bm
  have hSoH := hide hSo
  obtain ⟨AS, cS, rfl⟩ := slice_of_own hSo
  have f6 := b6.1.cell
  have hNH := hide hN
  clear hA hb34 b6 bn bm hNA hSo f2 hN
  go_wp2_with fail
  refine im_rows hNAH.out hB14.out b6H.out.1 (by omega) hL8 ?_ ?_
  · repeat (first | exact Reg.NoQ.body (fun _ _ h => h) (fun _ h => h) | refine Reg.NoQ.then ?_ | refine Reg.NoQ.inBlock ?_)
  iterate 12 (intro _)
  intro w5 gi hN5
  have hK5 := hN5.kept
  have hNS5 := hide hN5.done
  have hB15 := hide (b3r_of hB14.out bnH.out.1 hK5 (by decide))
  have hB25 := hide (b3r_of hB24.out bnH.out.1 hK5 (by decide))
  have hB45 := hide (b3r_of hB44.out bnH.out.1 hK5 (by decide))
  have hB65 := hide (b3r_of b6H.out.1 bnH.out.1 hK5 (by decide))
  have hBm5 := hide (b3r_of bmH.out.1 bnH.out.1 hK5 (by decide))
  have hS5 := hide (own_ty hK5 hSoH.out (fun g cs e hB => by subst e; exact hB.ne_ bnH.out.1 (by decide) rfl))
  have b05 := hide (b04.out.trans (hK5.below b04.out.size fun b hb e => by have := bnH.out.2; have := b03.out.size; omega))
  obtain ⟨ge, w6, hmk, hbe, hb6, hge⟩ := mk_facts Tryz.underlying93 info23 rfl (by omega) w5 a.L (by omega)
  have b06 := hide (b05.out.trans (hb6.mono b05.out.size))
  have hNS6 := hide (hNS5.out.keep hb6)
  have hB16 := hide (hB15.out.below hb6)
  have hB26 := hide (hB25.out.below hb6)
  have hB46 := hide (hB45.out.below hb6)
  have hB66 := hide (hB65.out.below hb6)
  have hBm6 := hide (hBm5.out.below hb6)
  have hS6 := hide (own_below hS5.out hb6)
  have hbeH := hide hbe
  have f15 := hB15.out.cell
  have f26 := hB26.out.cell
  have hsz6 := hide (show w4.heap.size ≤ w6.heap.size from by have := hK5.size; have := hb6.size; omega)
  have hgeH := hide (show w5.heap.size ≤ ge from hge)
  clear hN5 hK5 hbe hb6 hge f6
  go_wp2_with fail
  refine im_buck (w0 := w) (a := a) (B := w.heap.size) (BukM.start (by have := hbeH.out; rw [rangeC_rep] at this; exact this)) (j3H.out.keep (w' := w6) (fun p hp => b06.out.cell hp) (Nat.le_refl _)) (Nat.le_refl _) b06.out (by have := b05.out.size; have := hgeH.out; omega) hn6H.out ilH.out hL8 (by omega) ?_ ?_
  · repeat (first | exact Reg.NoQ.body (fun _ _ h => h) (fun _ h => h) | refine Reg.NoQ.then ?_ | refine Reg.NoQ.inBlock ?_)
  iterate 18 (intro _)
  intro w7 ub hBk
  rw [hn6H.out] at hBk
  have hK7 := hBk.kept
  have hty7 : ∀ g t cs, g = ge → t ≠ 26 → ¬ Blk w6 g t cs := fun g t cs e h1 hB => by subst e; exact hB.ne_ hbeH.out h1 rfl
  have hI7 : Hid (ImM w4 w7 g6 N a.L gn ge w6.heap.size gi #[.int .i64 (a.L : Int), .slice (some ⟨gn, 0, none⟩) N N, .slice AS (pairL (a.n : Int) (sortU t.start) (sortU a.start)).length cS, .slice (some ⟨gm, 0, none⟩) N N] ub a (fun _ _ => .slice none 0 0) ((t.moves.take 0).flatMap (prM a))) := by
    refine ⟨?_, ⟨hBk.top, hBk.own⟩, hB66.out.kept hK7 fun e => hty7 _ _ _ e (by decide) hB66.out⟩
    rw [List.take_zero, List.flatMap_nil, toL_nil]
    exact hNS6.out.keepT hK7 (fun b hb e => by have := hgeH.out; have := hsz6.out; have := b05.out.size; have := hNS5.out.kept.size; omega) hty7
  have hB17 := hide (hB16.out.kept hK7 fun e => hty7 _ _ _ e (by decide) hB16.out)
  have f17 := hB17.out.cell
  clear hBk hK7 hty7 f15 f26 hmk
  go_wp2_with fail
  go_loopw [83] (fun ii wr => ∃ (i : Nat) (u : Nat → Nat → Value), ii = .int .i64 (i : Int) ∧ i ≤ n3 ∧ Hid (ImM w4 wr g6 N a.L gn ge w6.heap.size gi #[.int .i64 (a.L : Int), .slice (some ⟨gn, 0, none⟩) N N, .slice AS (pairL (a.n : Int) (sortU t.start) (sortU a.start)).length cS, .slice (some ⟨gm, 0, none⟩) N N] ub a u ((t.moves.take i).flatMap (prM a)))) (fun ii _ => n3 - (intOf ii).toNat)
  case atStart => exact ⟨0, _, rfl, Nat.zero_le _, hI7⟩
  case round =>
    obtain ⟨i, u, rfl, hi, hI⟩ := hrel
    have hKr := hide hI.out.net.kept
    have b0r := hide (b04.out.trans (hKr.out.below b04.out.size fun b hb e => by have := bnH.out.2; have := b03.out.size; omega))
    by_cases hlt : i < n3
    · obtain ⟨bl, off, m0, rfl, hbk, hxk, hc⟩ := h3H.out.at (k := i) (by rw [← hn3H.out]; exact hlt)
      have hcc := fun j hj => (b0r.out.cell (by exact hbk)).trans (hc j hj)
      have e0 := hcc 0 (by omega)
      have e1 := hcc 1 (by omega)
      have e2 := hcc 2 (by omega)
      have e3 := hcc 3 (by omega)
      obtain ⟨f, x, y, g, rfl, hf, hx, hy, hg⟩ := imH.out m0 (List.mem_of_getElem? hxk)
      simp only [Nat.add_zero, encM] at e0 e1 e2 e3
      have hsucc := hide (prEs_succ (a := a) hxk)
      have hby := hide (prM_by (a := a) (m := ⟨(f : Int), (x : Int), (y : Int), (g : Int)⟩) (y := x) rfl)
      have hes := hide (fm_take_len (t := t) (a := a) i)
      obtain ⟨w8, hw8, hb8, hB8, hk8⟩ := box_blk wr #[.int .i64 (f : Int), .int .i64 (x : Int), .int .i64 (y : Int), .int .i64 (g : Int)] 95
      have hI8 := hide (hI.out.keep hb8)
      have hB8H := hide hB8
      have f8 := hB8.cell
      have hox := hI8.out.buk.own x hx
      obtain ⟨AB, cB, hub⟩ := slice_of_own hox
      have hct : w8.cell? ⟨ge, x, none⟩ = some (.slice AB (a.by a.edges.length x).length cB) := by rw [hI8.out.buk.top.cell, rangeC_get _ hx, hub]
      have hubH := hide hub
      have hbl := hide (a.by_len a.edges.length x)
      obtain ⟨lb, hlb⟩ : ∃ lb, lb = (a.by a.edges.length x).length := ⟨_, rfl⟩
      rw [← hlb] at hct
      have hlbH := hide hlb
      have hlb9 : lb ≤ 9223372036854775807 := by have := hbl.out; have := hn6H.out; omega
      have hfN := hide (show (f + 1) * a.n ≤ N from by rw [hNH.out]; exact Nat.mul_le_mul_right _ hf)
      clear hc hcc hxk hb8 hB8 hk8 hox hub hlb hI
      go_wp2_with fail
      refine im_in (m := ⟨(f : Int), (x : Int), (y : Int), (g : Int)⟩) (bl := a.by a.edges.length x) (n := a.n) hI8.out hB8H.out (fun wz hz => ?_) hlbH.out (by_in ainH.out hS0.out _ _) han hfN.out (by omega) (by omega) hy hL8 (by omega) (by have := hes.out; have := hPl.out; have := hbl.out; have := hlbH.out; have := hn6H.out; omega) rfl hSeH.out ?_ ?_
      · obtain ⟨A', c', q1, q2⟩ := own_slE (B := wz.heap.size) (hz.own x hx) rfl (Nat.le_refl _) (by have := hbl.out; have := hn6H.out; omega)
        rw [hubH.out] at q1
        injection q1 with q1
        subst q1
        exact q2
      · repeat (first | refine Reg.NoQ.then ?_ | refine Reg.NoQ.inBlock ?_)
        all_goals exact Reg.NoQ.body (fun _ _ h => h) (fun _ h => h)
      · iterate 40 (intro _)
        intro w9 u' hM9
        rw [← hby.out, ← hsucc.out] at hM9
        have hM9H := hide hM9
        clear hM9
        go_wp2_with fail
        exact ⟨⟨i + 1, u', by go_num, by omega, hM9H⟩, by simp [intOf]; omega⟩
    · have hIf := hI.out
      rw [List.take_of_length_le (by rw [← hn3H.out]; omega)] at hIf
      have hIfH := hide (show ImM w4 wr g6 N a.L gn ge w6.heap.size gi #[.int .i64 (a.L : Int), .slice (some ⟨gn, 0, none⟩) N N, .slice AS (pairL (a.n : Int) (sortU t.start) (sortU a.start)).length cS, .slice (some ⟨gm, 0, none⟩) N N] ub a u (prEs t a) from hIf)
      have hB4r := b3r_of hB44.out bnH.out.1 hKr.out (by decide)
      have hBmr := hide (b3r_of bmH.out.1 bnH.out.1 hKr.out (by decide))
      have hSr := hide (own_ty hKr.out hSoH.out (fun g cs e hB => by subst e; exact hB.ne_ bnH.out.1 (by decide) rfl))
      have f6r := hIf.box.cell
      have z1 := hB4r.frozen
      have z2 := hB4r.lt
      have z3 := hB4r.cell
      obtain ⟨wF, hwF, hBF, hKF⟩ := set4t_facts hB4r (.int .i64 (a.L : Int)) (.slice (some ⟨gn, 0, none⟩) N N) (.slice AS (pairL (a.n : Int) (sortU t.start) (sortU a.start)).length cS) (.slice (some ⟨gm, 0, none⟩) N N)
      have z4 := hBF.cell
      have hbF := hide (b0r.out.trans (hKF.below b0r.out.size fun b hb e => by omega))
      have hres : Hid (IsNF wF wF.heap.size (.agg #[.int .i64 (a.L : Int), .slice (some ⟨gn, 0, none⟩) N N, .slice AS (pairL (a.n : Int) (sortU t.start) (sortU a.start)).length cS, .slice (some ⟨gm, 0, none⟩) N N]) (imgN t a)) := by
        have hne : ∀ g t cs, Blk wr g t cs → t ≠ 56 → g ≠ w2.heap.size := fun g t cs hB h1 => hB.ne_ hB4r h1
        have net := hIfH.out.net
        refine im_nf (net.top.kept hKF (hne _ _ _ net.top (by decide))) (fun s hs => (net.row s hs).1.kept hKF (hne _ _ _ (net.row s hs).1 (by decide))) (fun s hs x hx => own_ty hKF (net.own s hs x hx) (fun g cs e hB => by subst e; exact hB.ne_ hB4r (by decide) rfl)) (base := w3.heap.size) ?_ ?_ (by rw [hpn.out, hNH.out]) (by omega) hL8 hsl.out (by have := hPl.out; omega) (Nat.le_refl _)
        · have h1 := own_ty hKF hSr.out (fun g cs e hB => by subst e; exact hB.ne_ hB4r (by decide) rfl)
          rw [hSeH.out]
          exact h1
        · have h1 := hBmr.out.kept hKF (hne _ _ _ hBmr.out (by decide))
          rw [hSeH.out]
          exact h1
      unfold set4t at hwF
      clear hIf hB4r hBF hKF hI
      go_wp2_with fail
      first
      | exact bodyPost_ret (v := .agg #[.int .i64 (a.L : Int), .slice (some ⟨gn, 0, none⟩) N N, .slice AS (pairL (a.n : Int) (sortU t.start) (sortU a.start)).length cS, .slice (some ⟨gm, 0, none⟩) N N]) (by simp [results, Tryz.results24, go_sem, z4]) rfl ⟨hres.out, hbF.out⟩
      | (change bodyPost _ _ _ _ _ (set4t wr w2.heap.size (.int .i64 (a.L : Int)) (.slice (some ⟨gn, 0, none⟩) N N) (.slice AS (pairL (a.n : Int) (sortU t.start) (sortU a.start)).length cS) (.slice (some ⟨gm, 0, none⟩) N N))
         unfold set4t
         rw [hwF]
         exact bodyPost_ret (v := .agg #[.int .i64 (a.L : Int), .slice (some ⟨gn, 0, none⟩) N N, .slice AS (pairL (a.n : Int) (sortU t.start) (sortU a.start)).length cS, .slice (some ⟨gm, 0, none⟩) N N]) (by simp [results, Tryz.results24, go_sem, z4]) rfl ⟨hres.out, hbF.out⟩)
end Go.Proofs.YtpmceapjnnkhjaaGreatDoor
