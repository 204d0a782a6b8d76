/-
  Part YD of a proof.
-/
import Derived.Test.YtpmceapjnnkhjaaGreatDoorPA
import Derived.Test.YtpmceapjnnkhjaaGreatDoorYC
import Derived.Test.YtpmceapjnnkhjaaGreatDoorXJ
import Derived.Test.YtpmceapjnnkhjaaGreatDoorXG
import Derived.Test.YtpmceapjnnkhjaaGreatDoorYB
set_option maxHeartbeats 16000000
set_option maxRecDepth 100000
set_option linter.unusedVariables false
set_option linter.unusedSimpArgs false
namespace Go.Proofs.YtpmceapjnnkhjaaGreatDoor
open Go.RowKit
set_option maxHeartbeats 16000000
set_option maxRecDepth 100000
theorem pa_E {w0 w : World} {g2 g3 g5 nm ne S tn c3 d1 : Nat} {A3 B1 : Option Addr} {L SN : Int} {vS vC vE x0 x1 x2 x3 y0 y2 y3 : Value} {t : TR} {a : WA} {ss as' : List Int}
  (hM : PaM w0 w g5 L SN vS vC vE ss as' []) (h2 : Blk w0 g2 25 #[x0, x1, x2, x3, .slice A3 nm c3]) (h3 : Blk w0 g3 28 #[y0, .int .i64 (S : Int), y2, y3, .slice B1 ne d1]) (h1 : Sl w0 w0.heap.size 4 encM A3 t.moves) (j1 : Sl w0 w0.heap.size 3 encE B1 a.edges) (hnm : nm = t.moves.length) (hne : ne = a.edges.length) (hSe : a.states = (S : Int)) (hmi : ∀ m ∈ t.moves, ∃ f x y g : Nat, m = ⟨(f : Int), (x : Int), (y : Int), (g : Int)⟩ ∧ f < tn ∧ g < tn) (htn : tn ≤ 400) (hS : S ≤ 400) (hin : ∀ e ∈ a.edges, inN S e.frm = true ∧ inN S e.to = true) (hmul : nm * ne ≤ 2000000) (hne9 : ne ≤ 4000)
  {u0 u1 u4 u6 u7 u8 u9 u11 u12 u13 u14 u15 u16 u17 u18 u19 u20 u21 u22 u23 u24 u25 u26 u27 u28 u29 u30 u31 u32 u33 u34 u35 u36 u37 u38 u39 u40 u41 u42 u43 u44 u45 u46 u47 u48 u49 u50 u51 u52 u53 u54 u55 u56 u57 u58 u59 u60 u61 u62 u63 u64 u65 u66 u67 u68 u69 u70 u71 u72 u73 u74 u75 u76 u77 u78 u79 u80 u81 u82 u83 u84 u85 u86 u87 u88 u89 u90 u91 u92 u93 u94 u95 u96 u97 u98 u99 u100 u101 u102 u103 u104 u105 u106 u107 u108 u109 u110 u111 u112 u113 u114 u115 u116 u117 u118 u119 u120 u121 u122 u123 u124 u125 u126 u127 u128 u129 u130 u131 u132 u133 u134 u135 u136 u137 u138 u139 u140 u141 : Value}
  {Q : Exit → Act → World → Prop} (hN : Reg.NoQ Q)
  (hQ : ∀ (x10 x11 x12 x13 x88 x89 x90 x91 x92 x93 x94 x95 x96 x97 x98 x99 x100 x101 x102 x103 x104 x105 x106 x107 x108 x109 x110 x111 x112 x113 x114 x115 x116 x117 x118 x119 x120 x121 x122 x123 x124 x125 x126 x127 x128 x129 x130 x131 x132 x133 x134 x135 x136 x137 x138 x139 x140 : Value) (w' : World) (vv' : Value), PaM w0 w' g5 L SN vS vC vv' ss as' (prEs t a) → Q (.exit 8) ⟨List.toArray (u0 :: u1 :: (.pointer (some ⟨g2, 0, none⟩)) :: (.pointer (some ⟨g3, 0, none⟩)) :: u4 :: (.pointer (some ⟨g5, 0, none⟩)) :: u6 :: u7 :: u8 :: u9 :: x10 :: x11 :: x12 :: x13 :: u14 :: u15 :: u16 :: u17 :: u18 :: u19 :: u20 :: u21 :: u22 :: u23 :: u24 :: u25 ::
   u26 :: u27 :: u28 :: u29 :: u30 :: u31 :: u32 :: u33 :: u34 :: u35 :: u36 :: u37 :: u38 :: u39 :: u40 :: u41 :: u42 :: u43 :: u44 :: u45 :: u46 :: u47 :: u48 :: u49 :: u50 :: u51 :: u52 :: u53 :: u54 :: u55 :: u56 :: u57 :: u58 :: u59 :: u60 :: u61 :: u62 ::
   u63 :: u64 :: u65 :: u66 :: u67 :: u68 :: u69 :: u70 :: u71 :: u72 :: u73 :: u74 :: u75 :: u76 :: u77 :: u78 :: u79 :: u80 :: u81 :: u82 :: u83 :: u84 :: u85 :: u86 :: u87 :: x88 :: x89 :: x90 :: x91 :: x92 :: x93 :: x94 :: x95 :: x96 :: x97 :: x98 :: x99 ::
   x100 :: x101 :: x102 :: x103 :: x104 :: x105 :: x106 :: x107 :: x108 :: x109 :: x110 :: x111 :: x112 :: x113 :: x114 :: x115 :: x116 :: x117 :: x118 :: x119 :: x120 :: x121 :: x122 :: x123 :: x124 :: x125 :: x126 :: x127 :: x128 :: x129 :: x130 :: x131 :: x132 ::
   x133 :: x134 :: x135 :: x136 :: x137 :: x138 :: x139 :: x140 :: u141 :: []), []⟩ w') :
  (Code.loop (loopBody Tryz.f31 4)).wp Tryz.prog Q ⟨List.toArray (u0 :: u1 :: (.pointer (some ⟨g2, 0, none⟩)) :: (.pointer (some ⟨g3, 0, none⟩)) :: u4 :: (.pointer (some ⟨g5, 0, none⟩)) :: u6 :: u7 :: u8 :: u9 :: (.int .i64 0) :: u11 :: u12 :: u13 :: u14 :: u15 :: u16 :: u17 :: u18 :: u19 :: u20 :: u21 :: u22 :: u23 :: u24 ::
   u25 :: u26 :: u27 :: u28 :: u29 :: u30 :: u31 :: u32 :: u33 :: u34 :: u35 :: u36 :: u37 :: u38 :: u39 :: u40 :: u41 :: u42 :: u43 :: u44 :: u45 :: u46 :: u47 :: u48 :: u49 :: u50 :: u51 :: u52 :: u53 :: u54 :: u55 :: u56 :: u57 :: u58 :: u59 :: u60 :: u61 ::
   u62 :: u63 :: u64 :: u65 :: u66 :: u67 :: u68 :: u69 :: u70 :: u71 :: u72 :: u73 :: u74 :: u75 :: u76 :: u77 :: u78 :: u79 :: u80 :: u81 :: u82 :: u83 :: u84 :: u85 :: u86 :: u87 :: u88 :: u89 :: u90 :: u91 :: u92 :: u93 :: u94 :: u95 :: u96 :: u97 :: u98 ::
   u99 :: u100 :: u101 :: u102 :: u103 :: u104 :: u105 :: u106 :: u107 :: u108 :: u109 :: u110 :: u111 :: u112 :: u113 :: u114 :: u115 :: u116 :: u117 :: u118 :: u119 :: u120 :: u121 :: u122 :: u123 :: u124 :: u125 :: u126 :: u127 :: u128 :: u129 :: u130 :: u131 ::
   u132 :: u133 :: u134 :: u135 :: u136 :: u137 :: u138 :: u139 :: u140 :: u141 :: []), []⟩ w := by
 conv => arg 2; arg 1; whnf
 have hMH := hide hM
 have h2H := hide h2
 have h3H := hide h3
 have h1H := hide h1
 have j1H := hide j1
 have hneH := hide hne
 have hnmH := hide hnm
 have hinH := hide hin
 have hmiH := hide hmi
 have hSeH := hide hSe
 have hmulH := hide hmul
 have hlt2 := h1.1
 rw [← hnm] at hlt2
 clear hM h2 h3 h1 j1 hne hnm hin hmi hmul hSe
 go_loopw [10] (fun ii wr => ∃ (i : Nat) (vv : Value), ii = .int .i64 (i : Int) ∧ i ≤ nm ∧ Hid (PaM w0 wr g5 L SN vS vC vv ss as' ((t.moves.take i).flatMap (prM a)))) (fun ii _ => nm - (intOf ii).toNat)
 case atStart => exact ⟨0, vE, rfl, Nat.zero_le _, by simpa using hMH⟩
 case round =>
  obtain ⟨i, vv, rfl, hi, hI⟩ := hrel
  have f2 := (h2H.out.below hI.out.below).cell
  by_cases hlt : i < nm
  ·obtain ⟨bt, ot, m0, rfl, hbt, hq, hct⟩ := (h1H.out.keep (w' := wr) (B' := w0.heap.size) (fun p hp => hI.out.below.cell hp) (Nat.le_refl _)).at (k := i) (by rw [← hnmH.out]; exact hlt)
   have e0 := hct 0 (by omega)
   have e1 := hct 1 (by omega)
   have e2 := hct 2 (by omega)
   have e3 := hct 3 (by omega)
   obtain ⟨f, x, y, g, rfl, hf, hg⟩ := hmiH.out m0 (List.mem_of_getElem? hq)
   simp only [Nat.add_zero, encM] at e0 e1 e2 e3
   have hsu := hide (show (t.moves.take (i + 1)).flatMap (prM a) = (t.moves.take i).flatMap (prM a) ++ prM a ⟨(f : Int), (x : Int), (y : Int), (g : Int)⟩ from by
    rw [take_snoc hq, List.flatMap_append]
    simp)
   have hle := hide (show ((t.moves.take i).flatMap (prM a)).length + ne ≤ 3000000 from by
    have h1 : ((t.moves.take i).flatMap (prM a)).length ≤ (t.moves.take i).length * a.edges.length := by
     generalize t.moves.take i = l
     induction l with
     | nil => simp
     | cons m l ih =>
      rw [List.flatMap_cons, List.length_append, List.length_cons, Nat.succ_mul]
      have := prM_len a m
      omega
    rw [List.length_take, ← hnmH.out, ← hneH.out, Nat.min_eq_left hi] at h1
    have h2 : i * ne ≤ nm * ne := Nat.mul_le_mul_right _ hi
    have h3 := hmulH.out
    omega)
   obtain ⟨w5, hw5, hb5, hB5, hk5⟩ := box_blk wr #[.int .i64 (f : Int), .int .i64 (x : Int), .int .i64 (y : Int), .int .i64 (g : Int)] 95
   have hM5 := hide (hI.out.keep hb5)
   have hB5H := hide hB5
   clear hq hct hb5 hB5 hk5
   go_wp2_with fail
   refine pa_e (i := 0) (g2 := 0) hM5.out h3H.out hB5H.out j1H.out hneH.out hSeH.out (by omega) (by omega) hS hinH.out hle.out ?_ ?_
   ·repeat (first | exact hN | refine Reg.NoQ.then ?_ | refine Reg.NoQ.inBlock ?_)
   ·iterate 43 (intro _)
    intro w2 vv2 hM2
    have hM2H := hide hM2
    clear hM2
    go_wp2_with fail
    refine ⟨⟨i + 1, vv2, by go_num, by omega, ?_⟩, by simp [intOf]; omega⟩
    rw [hsu.out]
    exact hM2H
  ·obtain rfl : i = nm := by omega
   have hIo := hI.out
   rw [List.take_of_length_le (by rw [← hnmH.out]; exact Nat.le_refl _)] at hIo
   have hIoH := hide (show PaM w0 wr g5 L SN vS vC vv ss as' (prEs t a) from hIo)
   clear hIo hI
   go_wp2_with fail
   first | exact hIoH.out | exact hQ _ _ _ _ _ _ _ _ _ _ _ _ _ _ _ _ _ _ _ _ _ _ _ _ _ _ _ _ _ _ _ _ _ _ _ _ _ _ _ _ _ _ _ _ _ _ _ _ _ _ _ _ _ _ _ _ _ wr _ hIoH.out
theorem refPairs_any {vt va : Value} {t : TR} {a : WA} {w : World} (ht : IsTR w w.heap.size vt t) (ha : IsWA w w.heap.size va a) (tin : t.In) (ain : a.In) (hT : 0 ≤ t.states ∧ t.states ≤ 400) (hS : 0 ≤ a.states ∧ a.states ≤ 400) (hTl : 0 ≤ t.letters)
  (m1 : t.start.length * a.start.length ≤ 2000000) (m2 : t.accept.length * a.accept.length ≤ 2000000) (me : t.moves.length * a.edges.length ≤ 1000000) (k3 : a.start.length ≤ 4000) (k4 : a.accept.length ≤ 4000) (ke : a.edges.length ≤ 4000) :
  Calls Tryz.prog 31 #[vt, va] w (Ret fun r w' => IsWA w' w'.heap.size r (prW t a) ∧ Below w.heap.size w w') := by
 obtain ⟨A1, c1, A2, c2, A3, c3, rfl, h1, h2, h3, -⟩ := ht
 obtain ⟨B1, d1, B2, d2, B3, d3, rfl, j1, j2, j3, -⟩ := ha
 have hTe : t.states = (t.n : Int) := by unfold TR.n; omega
 have hSe : a.states = (a.n : Int) := by unfold WA.n; omega
 have htn : t.n ≤ 400 := by unfold TR.n; omega
 have han : a.n ≤ 400 := by unfold WA.n; omega
 have i1 := tin.start
 have i2 := tin.accept
 have i3 := ain.start
 have i4 := ain.accept
 have im : ∀ m ∈ t.moves, ∃ f x y g : Nat, m = ⟨(f : Int), (x : Int), (y : Int), (g : Int)⟩ ∧ f < t.n ∧ g < t.n := fun m hm => by
  obtain ⟨q1, q2, q3, q4⟩ := tin.move m hm
  obtain ⟨f, e1, e2⟩ := inN_nat q1
  obtain ⟨x, e3, e4⟩ := inN_nat q2
  obtain ⟨y, e5, e6⟩ := inN_nat q3
  obtain ⟨g, e7, e8⟩ := inN_nat q4
  obtain ⟨m1, m2, m3, m4⟩ := m
  dsimp only at *
  subst e1 e3 e5 e7
  exact ⟨f, x, y, g, rfl, e2, e8⟩
 have ie : ∀ e ∈ a.edges, inN a.n e.frm = true ∧ inN a.n e.to = true := fun e he => by
  have := ain.edge e he
  rw [hSe] at this
  exact ⟨this.1, this.2.2⟩
 rw [hTe] at i1 i2
 rw [hSe] at i3 i4
 have hsl : (pairL (a.n : Int) t.start a.start).length ≤ 4000000 := by rw [pairL_len]; omega
 have hal : (pairL (a.n : Int) t.accept a.accept).length ≤ 4000000 := by rw [pairL_len]; omega
 have hel : (prEs t a).length ≤ 4000000 := by have := prEs_len t a; omega
 have hslH := hide hsl
 have halH := hide hal
 have helH := hide hel
 have hSeH := hide hSe
 have hTeH := hide hTe
 have h1H := hide h1
 have h2H := hide h2
 have h3H := hide h3
 have j1H := hide j1
 have j2H := hide j2
 have j3H := hide j3
 have i1H := hide i1
 have i2H := hide i2
 have i3H := hide i3
 have i4H := hide i4
 have imH := hide im
 have ieH := hide ie
 have hmb : t.n * a.n ≤ 400 * 400 := Nat.mul_le_mul htn han
 obtain ⟨n1, hn1⟩ : ∃ n, n = t.start.length := ⟨_, rfl⟩
 obtain ⟨n2, hn2⟩ : ∃ n, n = t.accept.length := ⟨_, rfl⟩
 obtain ⟨n3, hn3⟩ : ∃ n, n = t.moves.length := ⟨_, rfl⟩
 obtain ⟨n4, hn4⟩ : ∃ n, n = a.start.length := ⟨_, rfl⟩
 obtain ⟨n5, hn5⟩ : ∃ n, n = a.accept.length := ⟨_, rfl⟩
 obtain ⟨n6, hn6⟩ : ∃ n, n = a.edges.length := ⟨_, rfl⟩
 have hn1H := hide hn1
 have hn2H := hide hn2
 have hn3H := hide hn3
 have hn4H := hide hn4
 have hn5H := hide hn5
 have hn6H := hide hn6
 rw [hTe, hSe]
 rw [← hn1, ← hn4] at m1
 rw [← hn2, ← hn5] at m2
 rw [← hn3, ← hn6] at me
 rw [← hn4] at k3
 rw [← hn5] at k4
 rw [← hn6] at ke
 rw [← hn1, ← hn2, ← hn3, ← hn4, ← hn5, ← hn6]
 have m1H := hide m1
 have m2H := hide m2
 have meH := hide me
 obtain ⟨w1, hw1, hb1, hB1, -⟩ := box_blk w #[.int .i64 t.letters, .int .i64 (t.n : Int), .slice A1 n1 c1, .slice A2 n2 c2, .slice A3 n3 c3] 25
 obtain ⟨w2, hw2, hb2, hB2, -⟩ := box_blk w1 #[.int .i64 a.letters, .int .i64 (a.n : Int), .slice B1 n4 d1, .slice B2 n5 d2, .slice B3 n6 d3] 28
 obtain ⟨w3, hw3, hb3, hB3, -⟩ := box_blk w2 zero25 28
 obtain ⟨w4, hw4, hb4, hB4, -⟩ := box_blk w3 zero25 28
 obtain ⟨wE, hwE, hBE, hKE⟩ := set5_facts hB4 (.int .i64 a.letters) (.int .i64 ((t.n : Int) * (a.n : Int))) sn0 sn0 sn0
 have y1 := hB4.frozen
 have y2 := hB4.lt
 have y3 := hB4.cell
 have s1 := hb1.size
 have s2 := hb2.size
 have l1 := hB1.lt
 have l2 := hB2.lt
 have l3 := hB3.lt
 have b03 := hide (hb1.trans ((hb2.mono s1).trans (hb3.mono (by omega))))
 have g2 := hide ((hB1.below hb2).below hb3)
 have g3 := hide (hB2.below hb3)
 have g4 := hide hB3
 have f2 := g2.out.cell
 have f3 := g3.out.cell
 have hM0 := hide (show PaM w3 wE w3.heap.size a.letters ((t.n : Int) * (a.n : Int)) sn0 sn0 sn0 [] [] [] from ⟨hb4.trans (hKE.below hb4.size fun b hb e => by omega), hBE, own_nil, own_nil, own_nil, fun g hg => by simp [sn0, Value.ownBlock] at hg, Nat.le_refl _⟩)
 unfold set5 sn0 at hwE
 clear hb1 hB1 hb2 hB2 hb3 hB3 hb4 hB4 hBE hKE h1 h2 h3 j1 j2 j3 i1 i2 i3 i4 im ie tin ain hT hS hTe hSe hsl hal hel hn1 hn2 hn3 hn4 hn5 hn6 m1 m2 me hTl
 go_enter Tryz.func31, Tryz.ntmps31
 go_wp2_with fail
 refine pa_S (ss := []) (tn := t.n) hM0.out g2.out g3.out (h1H.out.keep (w' := w3) (fun p hp => b03.out.cell hp) b03.out.size) (j1H.out.keep (w' := w3) (fun p hp => b03.out.cell hp) b03.out.size) hn1H.out hn4H.out i1H.out htn han i3H.out k3 m1H.out ?_ ?_
 ·repeat (first | refine Reg.NoQ.then ?_ | refine Reg.NoQ.inBlock ?_)
  all_goals exact Reg.NoQ.body (fun _ _ h => h) (fun _ h => h)
 iterate 35 (intro _)
 intro w5 vS hM5
 have hM5H := hide hM5
 clear hM5
 go_wp2_with fail
 refine pa_A (as' := []) (tn := t.n) hM5H.out g2.out g3.out (h2H.out.keep (w' := w3) (fun p hp => b03.out.cell hp) b03.out.size) (j2H.out.keep (w' := w3) (fun p hp => b03.out.cell hp) b03.out.size) hn2H.out hn5H.out i2H.out htn han i4H.out k4 m2H.out ?_ ?_
 ·repeat (first | refine Reg.NoQ.then ?_ | refine Reg.NoQ.inBlock ?_)
  all_goals exact Reg.NoQ.body (fun _ _ h => h) (fun _ h => h)
 iterate 35 (intro _)
 intro w6 vC hM6
 have hM6H := hide hM6
 clear hM6
 go_wp2_with fail
 refine pa_E (tn := t.n) hM6H.out g2.out g3.out (h3H.out.keep (w' := w3) (fun p hp => b03.out.cell hp) b03.out.size) (j3H.out.keep (w' := w3) (fun p hp => b03.out.cell hp) b03.out.size) hn3H.out hn6H.out hSeH.out imH.out htn han ieH.out (by have := meH.out; omega) ke ?_ ?_
 ·repeat (first | refine Reg.NoQ.then ?_ | refine Reg.NoQ.inBlock ?_)
  all_goals exact Reg.NoQ.body (fun _ _ h => h) (fun _ h => h)
 iterate 57 (intro _)
 intro w7 vE hM7
 have hM7H := hide hM7
 obtain ⟨P1, p1, rfl⟩ := slice_of_own hM7.sts
 obtain ⟨P2, p2, rfl⟩ := slice_of_own hM7.acc
 obtain ⟨P3, p3, rfl⟩ := slice_of_own hM7.eds
 have f7 := hM7.box.cell
 have hR7 := g4.out.below hM7.below
 have hs7 := hM7.below.size
 obtain ⟨wF, hwF, hBF, hKF⟩ := set5_facts hR7 (.int .i64 a.letters) (.int .i64 ((t.n : Int) * (a.n : Int))) (.slice P1 (pairL (a.n : Int) t.start a.start).length p1) (.slice P2 (pairL (a.n : Int) t.accept a.accept).length p2) (.slice P3 (prEs t a).length p3)
 have z1 := hR7.frozen
 have z2 := hR7.lt
 have z3 := hR7.cell
 have z4 := hBF.cell
 have hb0F := hide ((b03.out.trans (hM7.below.mono b03.out.size)).trans (hKF.below (by have := b03.out.size; omega) fun b hb e => by omega))
 have hfin := hide (hM7.fin (wF := wF) (hKF.mono fun b _ e => by omega) hslH.out halH.out helH.out)
 unfold set5 at hwF
 clear hM7 hR7 hBF hKF
 go_wp2_with fail
 refine bodyPost_ret (v := .agg #[.int .i64 a.letters, .int .i64 ((t.n : Int) * (a.n : Int)), .slice P1 (pairL (a.n : Int) t.start a.start).length p1, .slice P2 (pairL (a.n : Int) t.accept a.accept).length p2, .slice P3 (prEs t a).length p3]) (by simp [results, Tryz.results31, go_sem, z4]) rfl ⟨?_, hb0F.out⟩
 have he : prW t a = ⟨a.letters, (t.n : Int) * (a.n : Int), pairL (a.n : Int) t.start a.start, pairL (a.n : Int) t.accept a.accept, prEs t a⟩ := by
  unfold prW
  rw [hTeH.out, hSeH.out]
 rw [he]
 exact hfin.out
end Go.Proofs.YtpmceapjnnkhjaaGreatDoor
namespace Go.Proofs.YtpmceapjnnkhjaaGreatDoor
open Go.RowKit
set_option maxHeartbeats 16000000
set_option maxRecDepth 100000
theorem TR.both_not {t : TR} {a : WA} (h : t.ok = true) (h' : a.ok = true) (hL : t.letters ≠ a.letters) : t.both a = false := by
 unfold TR.both
 rw [h, h', decide_eq_false fun e => hL e.symm]
 rfl
theorem refImage_any {vt va : Value} {t : TR} {a : WA} {w : World} (ht : IsTR w w.heap.size vt t) (ha : IsWA w w.heap.size va a)
  (m1 : t.start.length * a.start.length ≤ 2000000) (m2 : t.accept.length * a.accept.length ≤ 2000000) (me : t.moves.length * a.edges.length ≤ 1000000) (k3 : a.start.length ≤ 4000) (k4 : a.accept.length ≤ 4000) (ke : a.edges.length ≤ 4000) :
  Calls Tryz.prog 10 #[vt, va] w (Ret fun r w' => ImRet w t a r w') := by
 have htH := hide ht
 have haH := hide ha
 obtain ⟨A1, c1, A2, c2, A3, c3, rfl, -⟩ := ht
 obtain ⟨B1, d1, B2, d2, B3, d3, rfl, -⟩ := ha
 obtain ⟨w1, hw1, hb1, hB1, -⟩ := box_blk w #[.int .i64 t.letters, .int .i64 t.states, .slice A1 t.start.length c1, .slice A2 t.accept.length c2, .slice A3 t.moves.length c3] 25
 obtain ⟨w2, hw2, hb2, hB2, -⟩ := box_blk w1 #[.int .i64 a.letters, .int .i64 a.states, .slice B1 a.start.length d1, .slice B2 a.accept.length d2, .slice B3 a.edges.length d3] 28
 obtain ⟨w3, hw3, hb3, hB3, -⟩ := box_blk w2 zero25 28
 have s1 := hb1.size
 have s2 := hb2.size
 have l1 := hB1.lt
 have l2 := hB2.lt
 have l3 := hB3.lt
 have b03 := hide (hb1.trans ((hb2.mono s1).trans (hb3.mono (by omega))))
 have hX3 := hide ((hB1.below hb2).below hb3)
 have hY3 := hide (hB2.below hb3)
 have hR3 := hide hB3
 have fx := hX3.out.cell
 have fy := hY3.out.cell
 have hvt := refValidateR_any (htH.out.keep (w' := w3) (fun p hp => b03.out.cell hp) b03.out.size)
 have hvaH := hide (fun (wx : World) (hb : Below w.heap.size w wx) => refValidate_any (haH.out.keep (w' := wx) (fun p hp => hb.cell hp) hb.size))
 have hzero : ∀ (wr : World), Below w3.heap.size w3 wr → ∃ wF, set5 wr w2.heap.size (.int .i64 0) (.int .i64 0) sn0 sn0 sn0 = wF ∧ Blk wF w2.heap.size 28 zero25 ∧ Below w.heap.size w wF ∧ Blk wr w2.heap.size 28 zero25 := fun wr hb => by
  have hR := hR3.out.below hb
  obtain ⟨wF, hwF, hBF, hKF⟩ := set5_facts hR (.int .i64 0) (.int .i64 0) sn0 sn0 sn0
  have b0 := b03.out.trans (hb.mono b03.out.size)
  exact ⟨wF, hwF, hBF, b0.trans (hKF.below b0.size fun b hb e => by have := b03.out.size; omega), hR⟩
 have hzH := hide hzero
 clear hb1 hB1 hb2 hB2 hb3 hB3 hzero
 go_enter Tryz.func10, Tryz.ntmps10
 go_wp2_with fail
 refine Calls.ret hvt ?_
 rintro r w4 ⟨rfl, hb4⟩
 have b34 := hide hb4
 have b04 := hide (b03.out.trans (hb4.mono b03.out.size))
 have hX4 := hide (hX3.out.below hb4)
 have hY4 := hide (hY3.out.below hb4)
 have gx := hX4.out.cell
 have gy := hY4.out.cell
 clear hvt hb4 fx fy
 cases tok : t.ok with
 | false =>
  have hR : Hid (t.both a = false) := by show _ = _; unfold TR.both; rw [tok]; rfl
  rw [show errno false = 1 from rfl]
  obtain ⟨wF, hwF, hBF, hbF, hR4⟩ := hzH.out w4 b34.out
  have hf := hR4.frozen
  have hl := hR4.lt
  have hc := hR4.cell
  have hBFc := hBF.cell
  have hbFH := hide hbF
  unfold set5 at hwF
  clear tok hBF hbF hR4
  go_wp2_with fail
  refine bodyPost_ret (v := .tuple #[.agg zero25, .int .i64 1]) (by simp [results, Tryz.results10, go_sem, hBFc]) rfl ⟨hbFH.out, .inl ⟨hR.out, rfl⟩⟩
 | true =>
  rw [show errno true = 0 from rfl]
  have tokH := hide tok
  have hva := hvaH.out w4 b04.out
  clear tok
  go_wp2_with fail
  refine Calls.ret hva ?_
  rintro r w5 ⟨rfl, hb5⟩
  have b35 := hide (b34.out.trans (hb5.mono b34.out.size))
  have b05 := hide (b04.out.trans (hb5.mono b04.out.size))
  have hX5 := hide (hX4.out.below hb5)
  have hY5 := hide (hY4.out.below hb5)
  have kx := hX5.out.cell
  have ky := hY5.out.cell
  clear hva hb5 gx gy
  cases aok : a.ok with
  | false =>
   have hR : Hid (t.both a = false) := by show _ = _; unfold TR.both; rw [aok, Bool.and_false]; rfl
   rw [show errno false = 1 from rfl]
   obtain ⟨wF, hwF, hBF, hbF, hR5⟩ := hzH.out w5 b35.out
   have hf := hR5.frozen
   have hl := hR5.lt
   have hc := hR5.cell
   have hBFc := hBF.cell
   have hbFH := hide hbF
   unfold set5 at hwF
   clear aok hBF hbF hR5
   go_wp2_with fail
   refine bodyPost_ret (v := .tuple #[.agg zero25, .int .i64 1]) (by simp [results, Tryz.results10, go_sem, hBFc]) rfl ⟨hbFH.out, .inl ⟨hR.out, rfl⟩⟩
  | true =>
   rw [show errno true = 0 from rfl]
   have aokH := hide aok
   clear aok
   by_cases hLe : t.letters = a.letters
   ·have tbd := (TR.ok_iff.1 tokH.out).1
    have tin := (TR.ok_iff.1 tokH.out).2
    have abd := (WA.ok_iff.1 aokH.out).1
    have ain := (WA.ok_iff.1 aokH.out).2
    have hbo := hide (show t.both a = true from TR.both_iff.2 ⟨tokH.out, aokH.out, hLe.symm⟩)
    have hTe : t.states = (t.n : Int) := by unfold TR.n; omega
    have hSe : a.states = (a.n : Int) := by unfold WA.n; omega
    have htn : t.n ≤ 400 := by unfold TR.n; omega
    have han : a.n ≤ 400 := by unfold WA.n; omega
    have hmb : t.n * a.n ≤ 400 * 400 := Nat.mul_le_mul htn han
    have hprs := hide (fun (wx : World) (hb : Below w.heap.size w wx) => refPairs_any (htH.out.keep (w' := wx) (fun p hp => hb.cell hp) hb.size) (haH.out.keep (w' := wx) (fun p hp => hb.cell hp) hb.size) tin ain ⟨by omega, by omega⟩ ⟨by omega, by omega⟩ (by omega) m1 m2 me k3 k4 ke)
    have hpin := prW_in tin ain hLe
    have hmin := hide (fun (wx : World) (d : Value) (hI : IsWA wx wx.heap.size d (prW t a)) => refminimal_any hI hpin (show 0 ≤ (prW t a).states ∧ (prW t a).states ≤ 200000 from by
     have h1 : (prW t a).states = ((t.n * a.n : Nat) : Int) := by show t.states * a.states = _; rw [hTe, hSe, Int.natCast_mul]
     omega) (show 0 ≤ (prW t a).letters ∧ (prW t a).letters ≤ 8 from by show 0 ≤ a.letters ∧ a.letters ≤ 8; omega))
    rw [hTe] at hX5 kx hprs
    rw [hSe] at hY5 ky hprs
    obtain ⟨tn, htne⟩ : ∃ n, n = t.n := ⟨_, rfl⟩
    obtain ⟨an, hane⟩ : ∃ n, n = a.n := ⟨_, rfl⟩
    have htneH := hide htne
    have haneH := hide hane
    rw [← htne] at hX5 kx hprs hmb
    rw [← hane] at hY5 ky hprs hmb
    have hLeH := hide hLe
    rw [hLe] at hX5 kx hprs
    clear tbd tin abd ain hTe hSe htn han hpin htne hane m1 m2 me k3 k4 ke hLe
    by_cases hgt : (4000 : Int) < (tn : Int) * (an : Int)
    ·have hgtH : Hid (4000 < t.n * a.n) := by
      show 4000 < t.n * a.n
      rw [← htneH.out, ← haneH.out]
      have h1 : ((tn * an : Nat) : Int) = (tn : Int) * (an : Int) := Int.natCast_mul tn an
      omega
     obtain ⟨wF, hwF, hBF, hbF, hR5⟩ := hzH.out w5 b35.out
     have hf := hR5.frozen
     have hl := hR5.lt
     have hc := hR5.cell
     have hBFc := hBF.cell
     have hbFH := hide hbF
     unfold set5 at hwF
     clear hBF hbF hR5
     go_wp2_with fail
     refine bodyPost_ret (v := .tuple #[.agg zero25, .int .i64 4]) (by simp [results, Tryz.results10, go_sem, hBFc]) rfl ⟨hbFH.out, .inr (.inl ⟨hbo.out, .inl hgtH.out, rfl⟩)⟩
    ·have hngt : Hid (¬ 4000 < t.n * a.n) := by
      show ¬ 4000 < t.n * a.n
      rw [← htneH.out, ← haneH.out]
      have h1 : ((tn * an : Nat) : Int) = (tn : Int) * (an : Int) := Int.natCast_mul tn an
      omega
     have hcall := hprs.out w5 b05.out
     go_wp2_with fail
     refine Calls.ret hcall ?_
     rintro d w6 ⟨hI6, hb6⟩
     have b36 := hide (b35.out.trans (hb6.mono b35.out.size))
     have b06 := hide (b05.out.trans (hb6.mono b05.out.size))
     have hcall2 := hmin.out w6 d hI6
     clear hcall hb6 hI6 kx ky
     go_wp2_with fail
     refine Calls.ret hcall2 ?_
     rintro r w7 ⟨hb7, hr⟩
     have b37 := hide (b36.out.trans (hb7.mono b36.out.size))
     have b07 := hide (b06.out.trans (hb7.mono b06.out.size))
     rcases hr with ⟨hLg, rfl⟩ | ⟨hnl, t', ac, d2, hC, hac, rfl, hI7⟩
     ·obtain ⟨wF, hwF, hBF, hbF, hR7⟩ := hzH.out w7 b37.out
      have hf := hR7.frozen
      have hl := hR7.lt
      have hc := hR7.cell
      have hBFc := hBF.cell
      have hbFH := hide hbF
      have hLgH := hide hLg
      unfold set5 at hwF
      clear hBF hbF hR7 hLg hb7 hcall2
      go_wp2_with fail
      refine bodyPost_ret (v := .tuple #[.agg zero25, .int .i64 4]) (by simp [results, Tryz.results10, go_sem, hBFc]) rfl ⟨hbFH.out, .inr (.inl ⟨hbo.out, .inr hLgH.out, rfl⟩)⟩
     ·have hR7 := hR3.out.below b37.out
      have hl5 := b05.out.size
      have s6 := b36.out.size
      obtain ⟨mm, hmm⟩ : ∃ mm, mm = plainW (prW t a).L t' ac := ⟨_, rfl⟩
      rw [← hmm] at hI7
      obtain ⟨E1, h1, E2, h2, E3, h3, rfl, -⟩ := hI7 w7 (Kept.refl _ _)
      obtain ⟨wF, hwF, hBF, hKF⟩ := set5_facts hR7 (.int .i64 mm.letters) (.int .i64 mm.states) (.slice E1 mm.start.length h1) (.slice E2 mm.accept.length h2) (.slice E3 mm.edges.length h3)
      have hf := hR7.frozen
      have hl := hR7.lt
      have hc := hR7.cell
      have hBFc := hBF.cell
      have s03 := b03.out.size
      have hbF := hide (b07.out.trans (hKF.below b07.out.size fun b hb e => by omega))
      have s36 := b36.out.size
      have s06 := b06.out.size
      have hfin := hide (fun w'' (hk : Kept wF w'' (fun k => k < w.heap.size)) => hI7 w'' ((hKF.mono fun b _ e => by omega).trans hk fun b _ e => by omega))
      have hnlH := hide hnl
      have hCH := hide hC
      have hacH := hide hac
      have hmmH := hide hmm
      unfold set5 at hwF
      clear hcall2 hb7 hnl hC hac hI7 hmm hR7 hBF hKF
      go_wp2_with fail
      refine bodyPost_ret (v := .tuple #[.agg #[.int .i64 mm.letters, .int .i64 mm.states, .slice E1 mm.start.length h1, .slice E2 mm.accept.length h2, .slice E3 mm.edges.length h3], .int .i64 0]) (by simp [results, Tryz.results10, go_sem, hBFc]) rfl ⟨hbF.out, .inr (.inr ⟨hbo.out, hngt.out, hnlH.out, t', ac, _, hCH.out, hacH.out, rfl, ?_⟩)⟩
      intro w'' hk
      have e : mm = plainW a.L t' ac := hmmH.out
      rw [← e]
      exact hfin.out w'' hk
   ·have hR := hide (TR.both_not tokH.out aokH.out hLe)
    obtain ⟨wF, hwF, hBF, hbF, hR5⟩ := hzH.out w5 b35.out
    have hf := hR5.frozen
    have hl := hR5.lt
    have hc := hR5.cell
    have hBFc := hBF.cell
    have hbFH := hide hbF
    unfold set5 at hwF
    clear hBF hbF hR5
    go_wp2_with fail
    refine bodyPost_ret (v := .tuple #[.agg zero25, .int .i64 1]) (by simp [results, Tryz.results10, go_sem, hBFc]) rfl ⟨hbFH.out, .inl ⟨hR.out, rfl⟩⟩
end Go.Proofs.YtpmceapjnnkhjaaGreatDoor
