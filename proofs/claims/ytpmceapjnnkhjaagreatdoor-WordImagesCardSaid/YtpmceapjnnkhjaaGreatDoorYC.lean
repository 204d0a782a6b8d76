/-
  Part YC of a proof.
-/
import Derived.Test.YtpmceapjnnkhjaaGreatDoorPA
import Derived.Test.YtpmceapjnnkhjaaGreatDoorXC
import Derived.Test.YtpmceapjnnkhjaaGreatDoorXB
import Derived.Test.YtpmceapjnnkhjaaGreatDoorPR
set_option maxHeartbeats 16000000
set_option maxRecDepth 100000
set_option linter.unusedVariables false
set_option linter.unusedSimpArgs false
namespace Go.Proofs.YtpmceapjnnkhjaaGreatDoor
open Go.RowKit
set_option maxHeartbeats 16000000
set_option maxRecDepth 100000
structure PaM (w0 wr : World) (g5 : Nat) (L S : Int) (vS vC vE : Value) (ss as' : List Int) (es : List Edg) : Prop where
 below : Below w0.heap.size w0 wr
 box : Blk wr g5 28 #[.int .i64 L, .int .i64 S, vS, vC, vE]
 sts : wr.ownsRow w0.heap.size 3 1 vS ss.length (ss.map (Value.int .i64))
 acc : wr.ownsRow w0.heap.size 3 1 vC as'.length (as'.map (Value.int .i64))
 eds : wr.ownsRow w0.heap.size 65 3 vE es.length (es.flatMap eC)
 sep : ∀ g, vS.ownBlock = some g → vC.ownBlock ≠ some g
 ge : w0.heap.size ≤ g5
section
variable {w0 wr w1 : World} {g5 : Nat} {L S : Int} {vS vC vE : Value} {ss as' : List Int} {es : List Edg}
theorem PaM.keep (h : PaM w0 wr g5 L S vS vC vE ss as' es) (hb : Below wr.heap.size wr w1) : PaM w0 w1 g5 L S vS vC vE ss as' es :=
 ⟨h.below.trans (hb.mono h.below.size), h.box.below hb, own_below h.sts hb, own_below h.acc hb, own_below h.eds hb, h.sep, h.ge⟩
theorem PaM.addS {q : Int} {vS' : Value} (h : PaM w0 wr g5 L S vS vC vE ss as' es) (hk1 : Kept wr w1 (fun k => vS.ownBlock = some k)) (ho : w1.ownsRow w0.heap.size 3 1 vS' (ss.length + 1) (ss.map (Value.int .i64) ++ [.int .i64 q])) (hmv : Moved wr vS vS') :
  PaM w0 (w1.setCell ⟨g5, 2, none⟩ vS') g5 L S vS' vC vE (ss ++ [q]) as' es := by
 have n6 := h.box.kept hk1 (own_blk_ne h.sts h.box (by decide))
 have hk2 := (Kept.refl w1 (fun k => k = g5)).setCell (p := ⟨g5, 2, none⟩) (fun _ => rfl) vS'
 have hall : Kept wr (w1.setCell ⟨g5, 2, none⟩ vS') (fun k => vS.ownBlock = some k ∨ k = g5) := (hk1.mono fun _ _ e => .inl e).trans hk2 fun _ _ e => .inr e
 have hty : ∀ {e : TypeId}, e ≠ 3 → e ≠ 28 → ∀ g cs, (vS.ownBlock = some g ∨ g = g5) → ¬ Blk wr g e cs := by
  rintro e h1 h2 g cs (e1 | e1) hB
  ·exact own_blk_ne h.sts hB (fun hh => h1 hh.symm) e1
  ·exact hB.ne_ h.box h2 e1
 refine ⟨h.below.trans (hall.below h.below.size ?_), n6.set_ 2 vS', ?_, hall.ownsRow h.acc ?_, own_ty hall h.eds (hty (by decide) (by decide)), ?_, h.ge⟩
 ·rintro b hb (e | e)
  ·have := own_base h.sts e; omega
  ·have := h.ge; omega
 ·rw [List.length_append, List.map_append]
  exact own_ty hk2 ho (fun g cs e hB => by subst e; exact hB.ne_ n6 (by decide) rfl)
 ·rintro g hg (e | e)
  ·exact h.sep g e hg
  ·subst e; exact own_blk_ne h.acc h.box (by decide) hg
 ·intro g hg hc
  rcases hmv with hh | ⟨g', hh, hlt⟩
  ·exact h.sep g (by rw [← hh]; exact hg) hc
  ·rw [hg] at hh
   have := Option.some.inj hh
   have := own_lt h.acc hc
   omega
theorem PaM.addA {q : Int} {vC' : Value} (h : PaM w0 wr g5 L S vS vC vE ss as' es) (hk1 : Kept wr w1 (fun k => vC.ownBlock = some k)) (ho : w1.ownsRow w0.heap.size 3 1 vC' (as'.length + 1) (as'.map (Value.int .i64) ++ [.int .i64 q])) (hmv : Moved wr vC vC') :
  PaM w0 (w1.setCell ⟨g5, 3, none⟩ vC') g5 L S vS vC' vE ss (as' ++ [q]) es := by
 have n6 := h.box.kept hk1 (own_blk_ne h.acc h.box (by decide))
 have hk2 := (Kept.refl w1 (fun k => k = g5)).setCell (p := ⟨g5, 3, none⟩) (fun _ => rfl) vC'
 have hall : Kept wr (w1.setCell ⟨g5, 3, none⟩ vC') (fun k => vC.ownBlock = some k ∨ k = g5) := (hk1.mono fun _ _ e => .inl e).trans hk2 fun _ _ e => .inr e
 have hty : ∀ {e : TypeId}, e ≠ 3 → e ≠ 28 → ∀ g cs, (vC.ownBlock = some g ∨ g = g5) → ¬ Blk wr g e cs := by
  rintro e h1 h2 g cs (e1 | e1) hB
  ·exact own_blk_ne h.acc hB (fun hh => h1 hh.symm) e1
  ·exact hB.ne_ h.box h2 e1
 refine ⟨h.below.trans (hall.below h.below.size ?_), n6.set_ 3 vC', hall.ownsRow h.sts ?_, ?_, own_ty hall h.eds (hty (by decide) (by decide)), ?_, h.ge⟩
 ·rintro b hb (e | e)
  ·have := own_base h.acc e; omega
  ·have := h.ge; omega
 ·rintro g hg (e | e)
  ·exact h.sep g hg e
  ·subst e; exact own_blk_ne h.sts h.box (by decide) hg
 ·rw [List.length_append, List.map_append]
  exact own_ty hk2 ho (fun g cs e hB => by subst e; exact hB.ne_ n6 (by decide) rfl)
 ·intro g hg hc
  rcases hmv with hh | ⟨g', hh, hlt⟩
  ·exact h.sep g hg (by rw [← hh]; exact hc)
  ·rw [hc] at hh
   have := Option.some.inj hh
   have := own_lt h.sts hg
   omega
theorem PaM.addE {d : Edg} {vE' : Value} (h : PaM w0 wr g5 L S vS vC vE ss as' es) (hk1 : Kept wr w1 (fun k => vE.ownBlock = some k)) (ho : w1.ownsRow w0.heap.size 65 3 vE' (es.length + 1) (es.flatMap eC ++ eC d)) :
  PaM w0 (w1.setCell ⟨g5, 4, none⟩ vE') g5 L S vS vC vE' ss as' (es ++ [d]) := by
 have n6 := h.box.kept hk1 (own_blk_ne h.eds h.box (by decide))
 have hk2 := (Kept.refl w1 (fun k => k = g5)).setCell (p := ⟨g5, 4, none⟩) (fun _ => rfl) vE'
 have hall : Kept wr (w1.setCell ⟨g5, 4, none⟩ vE') (fun k => vE.ownBlock = some k ∨ k = g5) := (hk1.mono fun _ _ e => .inl e).trans hk2 fun _ _ e => .inr e
 have hty : ∀ {e : TypeId}, e ≠ 65 → e ≠ 28 → ∀ g cs, (vE.ownBlock = some g ∨ g = g5) → ¬ Blk wr g e cs := by
  rintro e h1 h2 g cs (e1 | e1) hB
  ·exact own_blk_ne h.eds hB (fun hh => h1 hh.symm) e1
  ·exact hB.ne_ h.box h2 e1
 refine ⟨h.below.trans (hall.below h.below.size ?_), n6.set_ 4 vE', own_ty hall h.sts (hty (by decide) (by decide)), own_ty hall h.acc (hty (by decide) (by decide)), ?_, h.sep, h.ge⟩
 ·rintro b hb (e | e)
  ·have := own_base h.eds e; omega
  ·have := h.ge; omega
 ·rw [List.length_append, List.flatMap_append]
  refine own_ty hk2 ?_ (fun g cs e hB => by subst e; exact hB.ne_ n6 (by decide) rfl)
  simpa using ho
theorem PaM.fin {wF : World} (h : PaM w0 wr g5 L S vS vC vE ss as' es) (hk : Kept wr wF (fun k => k < w0.heap.size)) (hs : ss.length ≤ 4000000) (ha : as'.length ≤ 4000000) (he : es.length ≤ 4000000) :
  IsWA wF wF.heap.size (.agg #[.int .i64 L, .int .i64 S, vS, vC, vE]) ⟨L, S, ss, as', es⟩ := by
 have hS := hk.ownsRow h.sts fun g hg e => by have := own_base h.sts hg; omega
 have hA := hk.ownsRow h.acc fun g hg e => by have := own_base h.acc hg; omega
 have hE := hk.ownsRow h.eds fun g hg e => by have := own_base h.eds hg; omega
 obtain ⟨A1, c1, e1, h1⟩ := own_slI (B := wF.heap.size) hS rfl (Nat.le_refl _) (by omega)
 obtain ⟨A2, c2, e2, h2⟩ := own_slI (B := wF.heap.size) hA rfl (Nat.le_refl _) (by omega)
 obtain ⟨A3, c3, e3, h3⟩ := own_slE (B := wF.heap.size) hE rfl (Nat.le_refl _) (by omega)
 have hcap : ss.length ≤ c1 := by
  rcases hS.2 with ⟨e, h0⟩ | ⟨g, cap, cur, e, -, -, hc, -⟩
  ·omega
  ·rw [e1] at e
   injection e with _ _ e
   omega
 exact ⟨A1, c1, A2, c2, A3, c3, by rw [e1, e2, e3], h1, h2, h3, hcap⟩
end
theorem pa_s {w0 w : World} {g2 g3 g5 i nt na S s tn c1 d1 : Nat} {A1 B1 : Option Addr} {L SN : Int} {vS vC vE x0 x1 xo x4 y0 yo y4 : Value} {t : TR} {a : WA} {ss as' : List Int} {es : List Edg}
  (hM : PaM w0 w g5 L SN vS vC vE ss as' es) (h2 : Blk w0 g2 25 #[x0, x1, .slice A1 nt c1, xo, x4]) (h3 : Blk w0 g3 28 #[y0, .int .i64 (S : Int), .slice B1 na d1, y4, yo]) (h1 : Sl w0 w0.heap.size 1 encI A1 t.start) (j1 : Sl w0 w0.heap.size 1 encI B1 a.start) (hnt : nt = t.start.length) (hna : na = a.start.length) (hs : t.start[i]? = some (s : Int)) (hst : s < tn) (htn : tn ≤ 400) (hS : S ≤ 400) (hin : ∀ x ∈ a.start, inN S x = true) (hl : ss.length + na ≤ 3000000)
  {u0 u1 u4 u8 u9 u10 u11 u12 u13 u14 u15 u16 u17 u18 u19 u20 u21 u22 u23 u24 u25 u26 u27 u28 u29 u30 u31 u32 u33 u34 u35 u36 u37 u38 u39 u40 u41 u42 u43 u44 u45 u46 u47 u48 u49 u50 u51 u52 u53 u54 u55 u56 u57 u58 u59 u60 u61 u62 u63 u64 u65 u66 u67 u68 u69 u70 u71 u72 u73 u74 u75 u76 u77 u78 u79 u80 u81 u82 u83 u84 u85 u86 u87 u88 u89 u90 u91 u92 u93 u94 u95 u96 u97 u98 u99 u100 u101 u102 u103 u104 u105 u106 u107 u108 u109 u110 u111 u112 u113 u114 u115 u116 u117 u118 u119 u120 u121 u122 u123 u124 u125 u126 u127 u128 u129 u130 u131 u132 u133 u134 u135 u136 u137 u138 u139 u140 u141 : Value}
  {Q : Exit → Act → World → Prop} (hN : Reg.NoQ Q)
  (hQ : ∀ (x7 x29 x30 x31 x32 x33 x34 x35 x36 x37 x38 x39 x40 x41 x42 x43 x44 x45 x46 x47 x48 x49 x50 x51 x52 x53 x54 : Value) (w' : World) (vv' : Value), PaM w0 w' g5 L SN vv' vC vE (ss ++ pairR (S : Int) (s : Int) a.start) as' es → Q (.exit 2) ⟨List.toArray (u0 :: u1 :: (.pointer (some ⟨g2, 0, none⟩)) :: (.pointer (some ⟨g3, 0, none⟩)) :: u4 :: (.pointer (some ⟨g5, 0, none⟩)) :: (.int .i64 (i : Int)) :: x7 :: u8 :: u9 :: u10 :: u11 :: u12 :: u13 :: u14 :: u15 :: u16 :: u17 :: u18 :: u19 :: u20 :: u21 :: u22 :: u23 ::
   u24 :: u25 :: u26 :: u27 :: u28 :: x29 :: x30 :: x31 :: x32 :: x33 :: x34 :: x35 :: x36 :: x37 :: x38 :: x39 :: x40 :: x41 :: x42 :: x43 :: x44 :: x45 :: x46 :: x47 :: x48 :: x49 :: x50 :: x51 :: x52 :: x53 :: x54 :: u55 :: u56 :: u57 :: u58 :: u59 :: u60 ::
   u61 :: u62 :: u63 :: u64 :: u65 :: u66 :: u67 :: u68 :: u69 :: u70 :: u71 :: u72 :: u73 :: u74 :: u75 :: u76 :: u77 :: u78 :: u79 :: u80 :: u81 :: u82 :: u83 :: u84 :: u85 :: u86 :: u87 :: u88 :: u89 :: u90 :: u91 :: u92 :: u93 :: u94 :: u95 :: u96 :: u97 ::
   u98 :: u99 :: u100 :: u101 :: u102 :: u103 :: u104 :: u105 :: u106 :: u107 :: u108 :: u109 :: u110 :: u111 :: u112 :: u113 :: u114 :: u115 :: u116 :: u117 :: u118 :: u119 :: u120 :: u121 :: u122 :: u123 :: u124 :: u125 :: u126 :: u127 :: u128 :: u129 :: u130 ::
   u131 :: u132 :: u133 :: u134 :: u135 :: u136 :: u137 :: u138 :: u139 :: u140 :: u141 :: []), []⟩ w') :
  (Code.loop (loopBody Tryz.f31 1)).wp Tryz.prog Q ⟨List.toArray (u0 :: u1 :: (.pointer (some ⟨g2, 0, none⟩)) :: (.pointer (some ⟨g3, 0, none⟩)) :: u4 :: (.pointer (some ⟨g5, 0, none⟩)) :: (.int .i64 (i : Int)) :: (.int .i64 0) :: u8 :: u9 :: u10 :: u11 :: u12 :: u13 :: u14 :: u15 :: u16 :: u17 :: u18 :: u19 :: u20 :: u21 ::
   u22 :: u23 :: u24 :: u25 :: u26 :: u27 :: u28 :: u29 :: u30 :: u31 :: u32 :: u33 :: u34 :: u35 :: u36 :: u37 :: u38 :: u39 :: u40 :: u41 :: u42 :: u43 :: u44 :: u45 :: u46 :: u47 :: u48 :: u49 :: u50 :: u51 :: u52 :: u53 :: u54 :: u55 :: u56 :: u57 :: u58 ::
   u59 :: u60 :: u61 :: u62 :: u63 :: u64 :: u65 :: u66 :: u67 :: u68 :: u69 :: u70 :: u71 :: u72 :: u73 :: u74 :: u75 :: u76 :: u77 :: u78 :: u79 :: u80 :: u81 :: u82 :: u83 :: u84 :: u85 :: u86 :: u87 :: u88 :: u89 :: u90 :: u91 :: u92 :: u93 :: u94 :: u95 ::
   u96 :: u97 :: u98 :: u99 :: u100 :: u101 :: u102 :: u103 :: u104 :: u105 :: u106 :: u107 :: u108 :: u109 :: u110 :: u111 :: u112 :: u113 :: u114 :: u115 :: u116 :: u117 :: u118 :: u119 :: u120 :: u121 :: u122 :: u123 :: u124 :: u125 :: u126 :: u127 :: u128 ::
   u129 :: u130 :: u131 :: u132 :: u133 :: u134 :: u135 :: u136 :: u137 :: u138 :: u139 :: u140 :: u141 :: []), []⟩ w := by
 conv => arg 2; arg 1; whnf
 have hMH := hide hM
 have h2H := hide h2
 have h3H := hide h3
 have h1H := hide h1
 have j1H := hide j1
 have hnaH := hide hna
 have hntH := hide hnt
 have hsH := hide hs
 have hinH := hide hin
 have hit : i < nt := by rw [hnt]; exact lt_of_get hs
 have hln := j1.1
 have hlt2 := h1.1
 rw [← hna] at hln
 rw [← hnt] at hlt2
 clear hM h2 h3 h1 j1 hnt hna hs hin
 go_loopw [7] (fun ii wr => ∃ (k : Nat) (vv : Value), ii = .int .i64 (k : Int) ∧ k ≤ na ∧ Hid (PaM w0 wr g5 L SN vv vC vE (ss ++ pairR (S : Int) (s : Int) (a.start.take k)) as' es)) (fun ii _ => na - (intOf ii).toNat)
 case atStart => exact ⟨0, vS, rfl, Nat.zero_le _, by simpa [pairR] using hMH⟩
 case round =>
  obtain ⟨k, vv, rfl, hk, hI⟩ := hrel
  have b2 := h2H.out.below hI.out.below
  have b3 := h3H.out.below hI.out.below
  have f2 := b2.cell
  have f3 := b3.cell
  have f5 := hI.out.box.cell
  by_cases hlt : k < na
  ·obtain ⟨bt, ot, s', rfl, hbt, hst', hct⟩ := (h1H.out.keep (w' := wr) (B' := w0.heap.size) (fun p hp => hI.out.below.cell hp) (Nat.le_refl _)).at (k := i) (by rw [← hntH.out]; exact hit)
   obtain rfl : s' = (s : Int) := Option.some.inj (hst'.symm.trans hsH.out)
   obtain ⟨ba, oa, q0, rfl, hba, hq, hca⟩ := (j1H.out.keep (w' := wr) (B' := w0.heap.size) (fun p hp => hI.out.below.cell hp) (Nat.le_refl _)).at (k := k) (by rw [← hnaH.out]; exact hlt)
   have e0 := hct 0 (by omega)
   have e1 := hca 0 (by omega)
   simp only [Nat.mul_one, Nat.add_zero, encI] at e0 e1
   obtain ⟨q, rfl, hqS⟩ := inN_nat (hinH.out q0 (List.mem_of_getElem? hq))
   have hqS : q < S := by simpa using hqS
   have hb1 : s * S ≤ 400 * 400 := Nat.mul_le_mul (by omega) hS
   have hsu := hide (pairR_succ (n := (S : Int)) (p := (s : Int)) hq)
   have hrow := hI.out.sts
   obtain ⟨Av, cv, rfl⟩ := slice_of_own hrow
   have hlen : (ss ++ pairR (S : Int) (s : Int) (a.start.take k)).length + 1 ≤ 4000000 := by
    rw [List.length_append, pairR_len, List.length_take]
    omega
   obtain ⟨ml, hml⟩ : ∃ ml, ml = (ss ++ pairR (S : Int) (s : Int) (a.start.take k)).length := ⟨_, rfl⟩
   rw [← hml] at hrow hlen f5
   have hmlH := hide hml
   have hsz := hI.out.below.size
   clear hst' hct hq hca b2 b3 hml
   go_wp2_with fail
   refine Reg.cI [0, 1, 0, 4, 0, 28, 60, 0, 128, 508, 0, 1024, 0, 7168, 15360, 32764, 65532, 131071, 262143, 524287] [0, 1, 2, 3, 4, 5, 6, 7, 8, 9, 10, 11, 12, 13, 14, 15, 16, 17, 18, 19] ?_ (by kernel_rfl) (by repeat (first | exact hN | refine Reg.NoQ.then ?_ | refine Reg.NoQ.inBlock ?_))
   refine Reg.restI_walkE [0, 1, 2, 3, 4, 5, 6, 7, 8, 9, 10, 11, 12, 13, 14, 15, 16] _ rfl rfl (by kernel_rfl) ?_
   intro Qf hQf
   go_wp2_with fail
   first | refine hQf _ _ ⟨rfl, ?_⟩ | refine ⟨rfl, ?_⟩
   try clear hQf
   refine Reg.restI_act 17 _ [] rfl (by kernel_rfl) ?_
   intro Qf hQf
   simp only [gT, gS, gZ]
   refine wpList_app_new (w := wr.drew) row3 rfl _ _ rfl w0.heap.size (.slice Av ml cv) ml _ rfl hrow [.int .i64 ((s : Int) * (S : Int) + (q : Int))] 1 rfl rfl (by simp [Value.oneCell']) hlen hsz ?_
   intro g cap w6 hown6 hk6 hmv6 hg6
   have hk6' : Kept wr w6 (fun k => (Value.slice Av ml cv).ownBlock = some k) := ⟨hk6.os, hk6.tape, hk6.output, hk6.size, hk6.block⟩
   have hmv6' : Moved wr (.slice Av ml cv) (.slice (some ⟨g, 0, none⟩) (ml + 1) cap) := hmv6
   have hIo := hI.out
   rw [← hmlH.out] at hIo
   have hst := hide (hIo.addS (q := (s : Int) * (S : Int) + (q : Int)) hk6' (by rw [← hmlH.out]; exact hown6) hmv6')
   have h6 := hIo.box.kept hk6' (own_blk_ne hrow hIo.box (by decide))
   have z1 := h6.frozen
   have z2 := h6.lt
   have z3 := h6.cell
   refine hQf _ _ ⟨Reg.nm, ?_⟩
   clear hQf hown6 hk6 hk6' hmv6 hmv6' h6 hIo f2 f3 f5
   refine Reg.restI_walkE [18, 19] _ rfl rfl (by kernel_rfl) ?_
   intro Qf hQf
   go_wp2_with fail
   first | refine hQf _ _ ⟨rfl, ?_⟩ | refine ⟨rfl, ?_⟩
   try clear hQf
   refine Reg.restI_end ?_
   go_wp2_with fail
   refine ⟨⟨k + 1, .slice (some ⟨g, 0, none⟩) (ml + 1) cap, by go_num, by omega, ?_⟩, by simp [intOf]; omega⟩
   rw [hsu.out, ← List.append_assoc]
   exact hst
  ·obtain rfl : k = na := by omega
   have hIo := hI.out
   rw [List.take_of_length_le (by rw [← hnaH.out]; exact Nat.le_refl _)] at hIo
   have hIoH := hide hIo
   clear hIo hI b2 b3
   go_wp2_with fail
   first | exact hIoH.out | exact hQ _ _ _ _ _ _ _ _ _ _ _ _ _ _ _ _ _ _ _ _ _ _ _ _ _ _ _ wr _ hIoH.out
theorem pa_a {w0 w : World} {g2 g3 g5 i nt na S s tn c1 d1 : Nat} {A1 B1 : Option Addr} {L SN : Int} {vS vC vE x0 x1 xo x4 y0 yo y4 : Value} {t : TR} {a : WA} {ss as' : List Int} {es : List Edg}
  (hM : PaM w0 w g5 L SN vS vC vE ss as' es) (h2 : Blk w0 g2 25 #[x0, x1, xo, .slice A1 nt c1, x4]) (h3 : Blk w0 g3 28 #[y0, .int .i64 (S : Int), y4, .slice B1 na d1, yo]) (h1 : Sl w0 w0.heap.size 1 encI A1 t.accept) (j1 : Sl w0 w0.heap.size 1 encI B1 a.accept) (hnt : nt = t.accept.length) (hna : na = a.accept.length) (hs : t.accept[i]? = some (s : Int)) (hst : s < tn) (htn : tn ≤ 400) (hS : S ≤ 400) (hin : ∀ x ∈ a.accept, inN S x = true) (hl : as'.length + na ≤ 3000000)
  {u0 u1 u4 u6 u7 u10 u11 u12 u13 u14 u15 u16 u17 u18 u19 u20 u21 u22 u23 u24 u25 u26 u27 u28 u29 u30 u31 u32 u33 u34 u35 u36 u37 u38 u39 u40 u41 u42 u43 u44 u45 u46 u47 u48 u49 u50 u51 u52 u53 u54 u55 u56 u57 u58 u59 u60 u61 u62 u63 u64 u65 u66 u67 u68 u69 u70 u71 u72 u73 u74 u75 u76 u77 u78 u79 u80 u81 u82 u83 u84 u85 u86 u87 u88 u89 u90 u91 u92 u93 u94 u95 u96 u97 u98 u99 u100 u101 u102 u103 u104 u105 u106 u107 u108 u109 u110 u111 u112 u113 u114 u115 u116 u117 u118 u119 u120 u121 u122 u123 u124 u125 u126 u127 u128 u129 u130 u131 u132 u133 u134 u135 u136 u137 u138 u139 u140 u141 : Value}
  {Q : Exit → Act → World → Prop} (hN : Reg.NoQ Q)
  (hQ : ∀ (x9 x62 x63 x64 x65 x66 x67 x68 x69 x70 x71 x72 x73 x74 x75 x76 x77 x78 x79 x80 x81 x82 x83 x84 x85 x86 x87 : Value) (w' : World) (vv' : Value), PaM w0 w' g5 L SN vS vv' vE ss (as' ++ pairR (S : Int) (s : Int) a.accept) es → Q (.exit 6) ⟨List.toArray (u0 :: u1 :: (.pointer (some ⟨g2, 0, none⟩)) :: (.pointer (some ⟨g3, 0, none⟩)) :: u4 :: (.pointer (some ⟨g5, 0, none⟩)) :: u6 :: u7 :: (.int .i64 (i : Int)) :: x9 :: u10 :: u11 :: u12 :: u13 :: u14 :: u15 :: u16 :: u17 :: u18 :: u19 :: u20 :: u21 :: u22 :: u23 ::
   u24 :: u25 :: u26 :: u27 :: u28 :: u29 :: u30 :: u31 :: u32 :: u33 :: u34 :: u35 :: u36 :: u37 :: u38 :: u39 :: u40 :: u41 :: u42 :: u43 :: u44 :: u45 :: u46 :: u47 :: u48 :: u49 :: u50 :: u51 :: u52 :: u53 :: u54 :: u55 :: u56 :: u57 :: u58 :: u59 :: u60 ::
   u61 :: x62 :: x63 :: x64 :: x65 :: x66 :: x67 :: x68 :: x69 :: x70 :: x71 :: x72 :: x73 :: x74 :: x75 :: x76 :: x77 :: x78 :: x79 :: x80 :: x81 :: x82 :: x83 :: x84 :: x85 :: x86 :: x87 :: u88 :: u89 :: u90 :: u91 :: u92 :: u93 :: u94 :: u95 :: u96 :: u97 ::
   u98 :: u99 :: u100 :: u101 :: u102 :: u103 :: u104 :: u105 :: u106 :: u107 :: u108 :: u109 :: u110 :: u111 :: u112 :: u113 :: u114 :: u115 :: u116 :: u117 :: u118 :: u119 :: u120 :: u121 :: u122 :: u123 :: u124 :: u125 :: u126 :: u127 :: u128 :: u129 :: u130 ::
   u131 :: u132 :: u133 :: u134 :: u135 :: u136 :: u137 :: u138 :: u139 :: u140 :: u141 :: []), []⟩ w') :
  (Code.loop (loopBody Tryz.f31 3)).wp Tryz.prog Q ⟨List.toArray (u0 :: u1 :: (.pointer (some ⟨g2, 0, none⟩)) :: (.pointer (some ⟨g3, 0, none⟩)) :: u4 :: (.pointer (some ⟨g5, 0, none⟩)) :: u6 :: u7 :: (.int .i64 (i : Int)) :: (.int .i64 0) :: u10 :: u11 :: u12 :: u13 :: u14 :: u15 :: u16 :: u17 :: u18 :: u19 :: u20 :: u21 ::
   u22 :: u23 :: u24 :: u25 :: u26 :: u27 :: u28 :: u29 :: u30 :: u31 :: u32 :: u33 :: u34 :: u35 :: u36 :: u37 :: u38 :: u39 :: u40 :: u41 :: u42 :: u43 :: u44 :: u45 :: u46 :: u47 :: u48 :: u49 :: u50 :: u51 :: u52 :: u53 :: u54 :: u55 :: u56 :: u57 :: u58 ::
   u59 :: u60 :: u61 :: u62 :: u63 :: u64 :: u65 :: u66 :: u67 :: u68 :: u69 :: u70 :: u71 :: u72 :: u73 :: u74 :: u75 :: u76 :: u77 :: u78 :: u79 :: u80 :: u81 :: u82 :: u83 :: u84 :: u85 :: u86 :: u87 :: u88 :: u89 :: u90 :: u91 :: u92 :: u93 :: u94 :: u95 ::
   u96 :: u97 :: u98 :: u99 :: u100 :: u101 :: u102 :: u103 :: u104 :: u105 :: u106 :: u107 :: u108 :: u109 :: u110 :: u111 :: u112 :: u113 :: u114 :: u115 :: u116 :: u117 :: u118 :: u119 :: u120 :: u121 :: u122 :: u123 :: u124 :: u125 :: u126 :: u127 :: u128 ::
   u129 :: u130 :: u131 :: u132 :: u133 :: u134 :: u135 :: u136 :: u137 :: u138 :: u139 :: u140 :: u141 :: []), []⟩ w := by
 conv => arg 2; arg 1; whnf
 have hMH := hide hM
 have h2H := hide h2
 have h3H := hide h3
 have h1H := hide h1
 have j1H := hide j1
 have hnaH := hide hna
 have hntH := hide hnt
 have hsH := hide hs
 have hinH := hide hin
 have hit : i < nt := by rw [hnt]; exact lt_of_get hs
 have hln := j1.1
 have hlt2 := h1.1
 rw [← hna] at hln
 rw [← hnt] at hlt2
 clear hM h2 h3 h1 j1 hnt hna hs hin
 go_loopw [9] (fun ii wr => ∃ (k : Nat) (vv : Value), ii = .int .i64 (k : Int) ∧ k ≤ na ∧ Hid (PaM w0 wr g5 L SN vS vv vE ss (as' ++ pairR (S : Int) (s : Int) (a.accept.take k)) es)) (fun ii _ => na - (intOf ii).toNat)
 case atStart => exact ⟨0, vC, rfl, Nat.zero_le _, by simpa [pairR] using hMH⟩
 case round =>
  obtain ⟨k, vv, rfl, hk, hI⟩ := hrel
  have b2 := h2H.out.below hI.out.below
  have b3 := h3H.out.below hI.out.below
  have f2 := b2.cell
  have f3 := b3.cell
  have f5 := hI.out.box.cell
  by_cases hlt : k < na
  ·obtain ⟨bt, ot, s', rfl, hbt, hst', hct⟩ := (h1H.out.keep (w' := wr) (B' := w0.heap.size) (fun p hp => hI.out.below.cell hp) (Nat.le_refl _)).at (k := i) (by rw [← hntH.out]; exact hit)
   obtain rfl : s' = (s : Int) := Option.some.inj (hst'.symm.trans hsH.out)
   obtain ⟨ba, oa, q0, rfl, hba, hq, hca⟩ := (j1H.out.keep (w' := wr) (B' := w0.heap.size) (fun p hp => hI.out.below.cell hp) (Nat.le_refl _)).at (k := k) (by rw [← hnaH.out]; exact hlt)
   have e0 := hct 0 (by omega)
   have e1 := hca 0 (by omega)
   simp only [Nat.mul_one, Nat.add_zero, encI] at e0 e1
   obtain ⟨q, rfl, hqS⟩ := inN_nat (hinH.out q0 (List.mem_of_getElem? hq))
   have hqS : q < S := by simpa using hqS
   have hb1 : s * S ≤ 400 * 400 := Nat.mul_le_mul (by omega) hS
   have hsu := hide (pairR_succ (n := (S : Int)) (p := (s : Int)) hq)
   have hrow := hI.out.acc
   obtain ⟨Av, cv, rfl⟩ := slice_of_own hrow
   have hlen : (as' ++ pairR (S : Int) (s : Int) (a.accept.take k)).length + 1 ≤ 4000000 := by
    rw [List.length_append, pairR_len, List.length_take]
    omega
   obtain ⟨ml, hml⟩ : ∃ ml, ml = (as' ++ pairR (S : Int) (s : Int) (a.accept.take k)).length := ⟨_, rfl⟩
   rw [← hml] at hrow hlen f5
   have hmlH := hide hml
   have hsz := hI.out.below.size
   clear hst' hct hq hca b2 b3 hml
   go_wp2_with fail
   refine Reg.cI [0, 1, 0, 4, 0, 28, 60, 0, 128, 508, 0, 1024, 0, 7168, 15360, 32764, 65532, 131071, 262143, 524287] [0, 1, 2, 3, 4, 5, 6, 7, 8, 9, 10, 11, 12, 13, 14, 15, 16, 17, 18, 19] ?_ (by kernel_rfl) (by repeat (first | exact hN | refine Reg.NoQ.then ?_ | refine Reg.NoQ.inBlock ?_))
   refine Reg.restI_walkE [0, 1, 2, 3, 4, 5, 6, 7, 8, 9, 10, 11, 12, 13, 14, 15, 16] _ rfl rfl (by kernel_rfl) ?_
   intro Qf hQf
   go_wp2_with fail
   first | refine hQf _ _ ⟨rfl, ?_⟩ | refine ⟨rfl, ?_⟩
   try clear hQf
   refine Reg.restI_act 17 _ [] rfl (by kernel_rfl) ?_
   intro Qf hQf
   simp only [gT, gS, gZ]
   refine wpList_app_new (w := wr.drew) row3 rfl _ _ rfl w0.heap.size (.slice Av ml cv) ml _ rfl hrow [.int .i64 ((s : Int) * (S : Int) + (q : Int))] 1 rfl rfl (by simp [Value.oneCell']) hlen hsz ?_
   intro g cap w6 hown6 hk6 hmv6 hg6
   have hk6' : Kept wr w6 (fun k => (Value.slice Av ml cv).ownBlock = some k) := ⟨hk6.os, hk6.tape, hk6.output, hk6.size, hk6.block⟩
   have hmv6' : Moved wr (.slice Av ml cv) (.slice (some ⟨g, 0, none⟩) (ml + 1) cap) := hmv6
   have hIo := hI.out
   rw [← hmlH.out] at hIo
   have hst := hide (hIo.addA (q := (s : Int) * (S : Int) + (q : Int)) hk6' (by rw [← hmlH.out]; exact hown6) hmv6')
   have h6 := hIo.box.kept hk6' (own_blk_ne hrow hIo.box (by decide))
   have z1 := h6.frozen
   have z2 := h6.lt
   have z3 := h6.cell
   refine hQf _ _ ⟨Reg.nm, ?_⟩
   clear hQf hown6 hk6 hk6' hmv6 hmv6' h6 hIo f2 f3 f5
   refine Reg.restI_walkE [18, 19] _ rfl rfl (by kernel_rfl) ?_
   intro Qf hQf
   go_wp2_with fail
   first | refine hQf _ _ ⟨rfl, ?_⟩ | refine ⟨rfl, ?_⟩
   try clear hQf
   refine Reg.restI_end ?_
   go_wp2_with fail
   refine ⟨⟨k + 1, .slice (some ⟨g, 0, none⟩) (ml + 1) cap, by go_num, by omega, ?_⟩, by simp [intOf]; omega⟩
   rw [hsu.out, ← List.append_assoc]
   exact hst
  ·obtain rfl : k = na := by omega
   have hIo := hI.out
   rw [List.take_of_length_le (by rw [← hnaH.out]; exact Nat.le_refl _)] at hIo
   have hIoH := hide hIo
   clear hIo hI b2 b3
   go_wp2_with fail
   first | exact hIoH.out | exact hQ _ _ _ _ _ _ _ _ _ _ _ _ _ _ _ _ _ _ _ _ _ _ _ _ _ _ _ wr _ hIoH.out
end Go.Proofs.YtpmceapjnnkhjaaGreatDoor
namespace Go.Proofs.YtpmceapjnnkhjaaGreatDoor
open Go.RowKit
set_option maxHeartbeats 16000000
set_option maxRecDepth 100000
theorem pa_S {w0 w : World} {g2 g3 g5 nt na S tn c1 d1 : Nat} {A1 B1 : Option Addr} {L SN : Int} {vS vC vE x0 x1 xo x4 y0 yo y4 : Value} {t : TR} {a : WA} {ss as' : List Int} {es : List Edg}
  (hM : PaM w0 w g5 L SN vS vC vE [] as' es) (h2 : Blk w0 g2 25 #[x0, x1, .slice A1 nt c1, xo, x4]) (h3 : Blk w0 g3 28 #[y0, .int .i64 (S : Int), .slice B1 na d1, y4, yo]) (h1 : Sl w0 w0.heap.size 1 encI A1 t.start) (j1 : Sl w0 w0.heap.size 1 encI B1 a.start) (hnt : nt = t.start.length) (hna : na = a.start.length) (htin : ∀ x ∈ t.start, inN tn x = true) (htn : tn ≤ 400) (hS : S ≤ 400) (hin : ∀ x ∈ a.start, inN S x = true) (hna9 : na ≤ 4000) (hmul : nt * na ≤ 2000000)
  {u0 u1 u4 u7 u8 u9 u10 u11 u12 u13 u14 u15 u16 u17 u18 u19 u20 u21 u22 u23 u24 u25 u26 u27 u28 u29 u30 u31 u32 u33 u34 u35 u36 u37 u38 u39 u40 u41 u42 u43 u44 u45 u46 u47 u48 u49 u50 u51 u52 u53 u54 u55 u56 u57 u58 u59 u60 u61 u62 u63 u64 u65 u66 u67 u68 u69 u70 u71 u72 u73 u74 u75 u76 u77 u78 u79 u80 u81 u82 u83 u84 u85 u86 u87 u88 u89 u90 u91 u92 u93 u94 u95 u96 u97 u98 u99 u100 u101 u102 u103 u104 u105 u106 u107 u108 u109 u110 u111 u112 u113 u114 u115 u116 u117 u118 u119 u120 u121 u122 u123 u124 u125 u126 u127 u128 u129 u130 u131 u132 u133 u134 u135 u136 u137 u138 u139 u140 u141 : Value}
  {Q : Exit → Act → World → Prop} (hN : Reg.NoQ Q)
  (hQ : ∀ (x6 x7 x22 x23 x24 x25 x26 x27 x28 x29 x30 x31 x32 x33 x34 x35 x36 x37 x38 x39 x40 x41 x42 x43 x44 x45 x46 x47 x48 x49 x50 x51 x52 x53 x54 : Value) (w' : World) (vv' : Value), PaM w0 w' g5 L SN vv' vC vE (pairL (S : Int) t.start a.start) as' es → Q (.exit 0) ⟨List.toArray (u0 :: u1 :: (.pointer (some ⟨g2, 0, none⟩)) :: (.pointer (some ⟨g3, 0, none⟩)) :: u4 :: (.pointer (some ⟨g5, 0, none⟩)) :: x6 :: x7 :: u8 :: u9 :: u10 :: u11 :: u12 :: u13 :: u14 :: u15 :: u16 :: u17 :: u18 :: u19 :: u20 :: u21 :: x22 :: x23 :: x24 :: x25 ::
   x26 :: x27 :: x28 :: x29 :: x30 :: x31 :: x32 :: x33 :: x34 :: x35 :: x36 :: x37 :: x38 :: x39 :: x40 :: x41 :: x42 :: x43 :: x44 :: x45 :: x46 :: x47 :: x48 :: x49 :: x50 :: x51 :: x52 :: x53 :: x54 :: u55 :: u56 :: u57 :: u58 :: u59 :: u60 :: u61 :: u62 ::
   u63 :: u64 :: u65 :: u66 :: u67 :: u68 :: u69 :: u70 :: u71 :: u72 :: u73 :: u74 :: u75 :: u76 :: u77 :: u78 :: u79 :: u80 :: u81 :: u82 :: u83 :: u84 :: u85 :: u86 :: u87 :: u88 :: u89 :: u90 :: u91 :: u92 :: u93 :: u94 :: u95 :: u96 :: u97 :: u98 :: u99 ::
   u100 :: u101 :: u102 :: u103 :: u104 :: u105 :: u106 :: u107 :: u108 :: u109 :: u110 :: u111 :: u112 :: u113 :: u114 :: u115 :: u116 :: u117 :: u118 :: u119 :: u120 :: u121 :: u122 :: u123 :: u124 :: u125 :: u126 :: u127 :: u128 :: u129 :: u130 :: u131 :: u132 ::
   u133 :: u134 :: u135 :: u136 :: u137 :: u138 :: u139 :: u140 :: u141 :: []), []⟩ w') :
  (Code.loop (loopBody Tryz.f31 0)).wp Tryz.prog Q ⟨List.toArray (u0 :: u1 :: (.pointer (some ⟨g2, 0, none⟩)) :: (.pointer (some ⟨g3, 0, none⟩)) :: u4 :: (.pointer (some ⟨g5, 0, none⟩)) :: (.int .i64 0) :: u7 :: u8 :: u9 :: u10 :: u11 :: u12 :: u13 :: u14 :: u15 :: u16 :: u17 :: u18 :: u19 :: u20 :: u21 :: u22 :: u23 :: u24 ::
   u25 :: u26 :: u27 :: u28 :: u29 :: u30 :: u31 :: u32 :: u33 :: u34 :: u35 :: u36 :: u37 :: u38 :: u39 :: u40 :: u41 :: u42 :: u43 :: u44 :: u45 :: u46 :: u47 :: u48 :: u49 :: u50 :: u51 :: u52 :: u53 :: u54 :: u55 :: u56 :: u57 :: u58 :: u59 :: u60 :: u61 ::
   u62 :: u63 :: u64 :: u65 :: u66 :: u67 :: u68 :: u69 :: u70 :: u71 :: u72 :: u73 :: u74 :: u75 :: u76 :: u77 :: u78 :: u79 :: u80 :: u81 :: u82 :: u83 :: u84 :: u85 :: u86 :: u87 :: u88 :: u89 :: u90 :: u91 :: u92 :: u93 :: u94 :: u95 :: u96 :: u97 :: u98 ::
   u99 :: u100 :: u101 :: u102 :: u103 :: u104 :: u105 :: u106 :: u107 :: u108 :: u109 :: u110 :: u111 :: u112 :: u113 :: u114 :: u115 :: u116 :: u117 :: u118 :: u119 :: u120 :: u121 :: u122 :: u123 :: u124 :: u125 :: u126 :: u127 :: u128 :: u129 :: u130 :: u131 ::
   u132 :: u133 :: u134 :: u135 :: u136 :: u137 :: u138 :: u139 :: u140 :: u141 :: []), []⟩ w := by
 conv => arg 2; arg 1; whnf
 have hMH := hide hM
 have h2H := hide h2
 have h3H := hide h3
 have h1H := hide h1
 have j1H := hide j1
 have hnaH := hide hna
 have hntH := hide hnt
 have hinH := hide hin
 have htinH := hide htin
 have hmulH := hide hmul
 have hlt2 := h1.1
 rw [← hnt] at hlt2
 clear hM h2 h3 h1 j1 hnt hna hin htin hmul
 go_loopw [6] (fun ii wr => ∃ (i : Nat) (vv : Value), ii = .int .i64 (i : Int) ∧ i ≤ nt ∧ Hid (PaM w0 wr g5 L SN vv vC vE (pairL (S : Int) (t.start.take i) a.start) as' es)) (fun ii _ => nt - (intOf ii).toNat)
 case atStart => exact ⟨0, vS, rfl, Nat.zero_le _, by simpa [pairL] using hMH⟩
 case round =>
  obtain ⟨i, vv, rfl, hi, hI⟩ := hrel
  have f2 := (h2H.out.below hI.out.below).cell
  by_cases hlt : i < nt
  ·obtain ⟨s0, hs⟩ := get_lt (l := t.start) (i := i) (by rw [← hntH.out]; exact hlt)
   obtain ⟨s, rfl, hst⟩ := inN_nat (htinH.out s0 (List.mem_of_getElem? hs))
   have hst : s < tn := by simpa using hst
   have hsH := hide hs
   have hsu := hide (pairL_succ (n := (S : Int)) (S := a.start) hs)
   have hle := hide (show (pairL (S : Int) (t.start.take i) a.start).length + na ≤ 3000000 from by
    rw [pairL_len, List.length_take, ← hntH.out, ← hnaH.out, Nat.min_eq_left hi]
    have h1 : i * na ≤ nt * na := Nat.mul_le_mul_right _ hi
    have h2 := hmulH.out
    omega)
   clear hs
   go_wp2_with fail
   refine pa_s (tn := tn) hI.out h2H.out h3H.out h1H.out j1H.out hntH.out hnaH.out hsH.out hst htn hS hinH.out hle.out ?_ ?_
   ·repeat (first | exact hN | refine Reg.NoQ.then ?_ | refine Reg.NoQ.inBlock ?_)
   ·iterate 27 (intro _)
    intro w2 vv2 hM2
    have hM2H := hide hM2
    clear hM2
    go_wp2_with fail
    refine ⟨⟨i + 1, vv2, by go_num, by omega, ?_⟩, by simp [intOf]; omega⟩
    rw [hsu.out]
    exact hM2H
  ·obtain rfl : i = nt := by omega
   have hIo := hI.out
   rw [List.take_of_length_le (by rw [← hntH.out]; exact Nat.le_refl _)] at hIo
   have hIoH := hide hIo
   clear hIo hI
   go_wp2_with fail
   first | exact hIoH.out | exact hQ _ _ _ _ _ _ _ _ _ _ _ _ _ _ _ _ _ _ _ _ _ _ _ _ _ _ _ _ _ _ _ _ _ _ _ wr _ hIoH.out
theorem pa_A {w0 w : World} {g2 g3 g5 nt na S tn c1 d1 : Nat} {A1 B1 : Option Addr} {L SN : Int} {vS vC vE x0 x1 xo x4 y0 yo y4 : Value} {t : TR} {a : WA} {ss as' : List Int} {es : List Edg}
  (hM : PaM w0 w g5 L SN vS vC vE ss [] es) (h2 : Blk w0 g2 25 #[x0, x1, xo, .slice A1 nt c1, x4]) (h3 : Blk w0 g3 28 #[y0, .int .i64 (S : Int), y4, .slice B1 na d1, yo]) (h1 : Sl w0 w0.heap.size 1 encI A1 t.accept) (j1 : Sl w0 w0.heap.size 1 encI B1 a.accept) (hnt : nt = t.accept.length) (hna : na = a.accept.length) (htin : ∀ x ∈ t.accept, inN tn x = true) (htn : tn ≤ 400) (hS : S ≤ 400) (hin : ∀ x ∈ a.accept, inN S x = true) (hna9 : na ≤ 4000) (hmul : nt * na ≤ 2000000)
  {u0 u1 u4 u6 u7 u9 u10 u11 u12 u13 u14 u15 u16 u17 u18 u19 u20 u21 u22 u23 u24 u25 u26 u27 u28 u29 u30 u31 u32 u33 u34 u35 u36 u37 u38 u39 u40 u41 u42 u43 u44 u45 u46 u47 u48 u49 u50 u51 u52 u53 u54 u55 u56 u57 u58 u59 u60 u61 u62 u63 u64 u65 u66 u67 u68 u69 u70 u71 u72 u73 u74 u75 u76 u77 u78 u79 u80 u81 u82 u83 u84 u85 u86 u87 u88 u89 u90 u91 u92 u93 u94 u95 u96 u97 u98 u99 u100 u101 u102 u103 u104 u105 u106 u107 u108 u109 u110 u111 u112 u113 u114 u115 u116 u117 u118 u119 u120 u121 u122 u123 u124 u125 u126 u127 u128 u129 u130 u131 u132 u133 u134 u135 u136 u137 u138 u139 u140 u141 : Value}
  {Q : Exit → Act → World → Prop} (hN : Reg.NoQ Q)
  (hQ : ∀ (x8 x9 x55 x56 x57 x58 x59 x60 x61 x62 x63 x64 x65 x66 x67 x68 x69 x70 x71 x72 x73 x74 x75 x76 x77 x78 x79 x80 x81 x82 x83 x84 x85 x86 x87 : Value) (w' : World) (vv' : Value), PaM w0 w' g5 L SN vS vv' vE ss (pairL (S : Int) t.accept a.accept) es → Q (.exit 4) ⟨List.toArray (u0 :: u1 :: (.pointer (some ⟨g2, 0, none⟩)) :: (.pointer (some ⟨g3, 0, none⟩)) :: u4 :: (.pointer (some ⟨g5, 0, none⟩)) :: u6 :: u7 :: x8 :: x9 :: u10 :: u11 :: u12 :: u13 :: u14 :: u15 :: u16 :: u17 :: u18 :: u19 :: u20 :: u21 :: u22 :: u23 :: u24 :: u25 ::
   u26 :: u27 :: u28 :: u29 :: u30 :: u31 :: u32 :: u33 :: u34 :: u35 :: u36 :: u37 :: u38 :: u39 :: u40 :: u41 :: u42 :: u43 :: u44 :: u45 :: u46 :: u47 :: u48 :: u49 :: u50 :: u51 :: u52 :: u53 :: u54 :: x55 :: x56 :: x57 :: x58 :: x59 :: x60 :: x61 :: x62 ::
   x63 :: x64 :: x65 :: x66 :: x67 :: x68 :: x69 :: x70 :: x71 :: x72 :: x73 :: x74 :: x75 :: x76 :: x77 :: x78 :: x79 :: x80 :: x81 :: x82 :: x83 :: x84 :: x85 :: x86 :: x87 :: u88 :: u89 :: u90 :: u91 :: u92 :: u93 :: u94 :: u95 :: u96 :: u97 :: u98 :: u99 ::
   u100 :: u101 :: u102 :: u103 :: u104 :: u105 :: u106 :: u107 :: u108 :: u109 :: u110 :: u111 :: u112 :: u113 :: u114 :: u115 :: u116 :: u117 :: u118 :: u119 :: u120 :: u121 :: u122 :: u123 :: u124 :: u125 :: u126 :: u127 :: u128 :: u129 :: u130 :: u131 :: u132 ::
   u133 :: u134 :: u135 :: u136 :: u137 :: u138 :: u139 :: u140 :: u141 :: []), []⟩ w') :
  (Code.loop (loopBody Tryz.f31 2)).wp Tryz.prog Q ⟨List.toArray (u0 :: u1 :: (.pointer (some ⟨g2, 0, none⟩)) :: (.pointer (some ⟨g3, 0, none⟩)) :: u4 :: (.pointer (some ⟨g5, 0, none⟩)) :: u6 :: u7 :: (.int .i64 0) :: u9 :: u10 :: u11 :: u12 :: u13 :: u14 :: u15 :: u16 :: u17 :: u18 :: u19 :: u20 :: u21 :: u22 :: u23 :: u24 ::
   u25 :: u26 :: u27 :: u28 :: u29 :: u30 :: u31 :: u32 :: u33 :: u34 :: u35 :: u36 :: u37 :: u38 :: u39 :: u40 :: u41 :: u42 :: u43 :: u44 :: u45 :: u46 :: u47 :: u48 :: u49 :: u50 :: u51 :: u52 :: u53 :: u54 :: u55 :: u56 :: u57 :: u58 :: u59 :: u60 :: u61 ::
   u62 :: u63 :: u64 :: u65 :: u66 :: u67 :: u68 :: u69 :: u70 :: u71 :: u72 :: u73 :: u74 :: u75 :: u76 :: u77 :: u78 :: u79 :: u80 :: u81 :: u82 :: u83 :: u84 :: u85 :: u86 :: u87 :: u88 :: u89 :: u90 :: u91 :: u92 :: u93 :: u94 :: u95 :: u96 :: u97 :: u98 ::
   u99 :: u100 :: u101 :: u102 :: u103 :: u104 :: u105 :: u106 :: u107 :: u108 :: u109 :: u110 :: u111 :: u112 :: u113 :: u114 :: u115 :: u116 :: u117 :: u118 :: u119 :: u120 :: u121 :: u122 :: u123 :: u124 :: u125 :: u126 :: u127 :: u128 :: u129 :: u130 :: u131 ::
   u132 :: u133 :: u134 :: u135 :: u136 :: u137 :: u138 :: u139 :: u140 :: u141 :: []), []⟩ w := by
 conv => arg 2; arg 1; whnf
 have hMH := hide hM
 have h2H := hide h2
 have h3H := hide h3
 have h1H := hide h1
 have j1H := hide j1
 have hnaH := hide hna
 have hntH := hide hnt
 have hinH := hide hin
 have htinH := hide htin
 have hmulH := hide hmul
 have hlt2 := h1.1
 rw [← hnt] at hlt2
 clear hM h2 h3 h1 j1 hnt hna hin htin hmul
 go_loopw [8] (fun ii wr => ∃ (i : Nat) (vv : Value), ii = .int .i64 (i : Int) ∧ i ≤ nt ∧ Hid (PaM w0 wr g5 L SN vS vv vE ss (pairL (S : Int) (t.accept.take i) a.accept) es)) (fun ii _ => nt - (intOf ii).toNat)
 case atStart => exact ⟨0, vC, rfl, Nat.zero_le _, by simpa [pairL] using hMH⟩
 case round =>
  obtain ⟨i, vv, rfl, hi, hI⟩ := hrel
  have f2 := (h2H.out.below hI.out.below).cell
  by_cases hlt : i < nt
  ·obtain ⟨s0, hs⟩ := get_lt (l := t.accept) (i := i) (by rw [← hntH.out]; exact hlt)
   obtain ⟨s, rfl, hst⟩ := inN_nat (htinH.out s0 (List.mem_of_getElem? hs))
   have hst : s < tn := by simpa using hst
   have hsH := hide hs
   have hsu := hide (pairL_succ (n := (S : Int)) (S := a.accept) hs)
   have hle := hide (show (pairL (S : Int) (t.accept.take i) a.accept).length + na ≤ 3000000 from by
    rw [pairL_len, List.length_take, ← hntH.out, ← hnaH.out, Nat.min_eq_left hi]
    have h1 : i * na ≤ nt * na := Nat.mul_le_mul_right _ hi
    have h2 := hmulH.out
    omega)
   clear hs
   go_wp2_with fail
   refine pa_a (tn := tn) hI.out h2H.out h3H.out h1H.out j1H.out hntH.out hnaH.out hsH.out hst htn hS hinH.out hle.out ?_ ?_
   ·repeat (first | exact hN | refine Reg.NoQ.then ?_ | refine Reg.NoQ.inBlock ?_)
   ·iterate 27 (intro _)
    intro w2 vv2 hM2
    have hM2H := hide hM2
    clear hM2
    go_wp2_with fail
    refine ⟨⟨i + 1, vv2, by go_num, by omega, ?_⟩, by simp [intOf]; omega⟩
    rw [hsu.out]
    exact hM2H
  ·obtain rfl : i = nt := by omega
   have hIo := hI.out
   rw [List.take_of_length_le (by rw [← hntH.out]; exact Nat.le_refl _)] at hIo
   have hIoH := hide hIo
   clear hIo hI
   go_wp2_with fail
   first | exact hIoH.out | exact hQ _ _ _ _ _ _ _ _ _ _ _ _ _ _ _ _ _ _ _ _ _ _ _ _ _ _ _ _ _ _ _ _ _ _ _ wr _ hIoH.out
def prK (a : WA) (m : Mv) (k : Nat) : List Edg := ((a.edges.take k).filter fun e => decide (e.letter = m.inn)).map (prE a.states m)
theorem prK_zero (a : WA) (m : Mv) : prK a m 0 = [] := by simp [prK]
theorem prK_yes {a : WA} {m : Mv} {k : Nat} {e : Edg} (h : a.edges[k]? = some e) (he : e.letter = m.inn) : prK a m (k + 1) = prK a m k ++ [prE a.states m e] := by
 unfold prK
 rw [take_snoc h, List.filter_append, List.map_append]
 simp [he]
theorem prK_no {a : WA} {m : Mv} {k : Nat} {e : Edg} (h : a.edges[k]? = some e) (he : e.letter ≠ m.inn) : prK a m (k + 1) = prK a m k := by
 unfold prK
 rw [take_snoc h, List.filter_append, List.map_append]
 simp [he]
theorem prK_all {a : WA} {m : Mv} {k : Nat} (h : a.edges.length ≤ k) : prK a m k = prM a m := by
 unfold prK prM
 rw [List.take_of_length_le h]
theorem prK_len (a : WA) (m : Mv) (k : Nat) : (prK a m k).length ≤ k := by
 unfold prK
 rw [List.length_map]
 exact Nat.le_trans (List.length_filter_le _ _) (List.length_take_le _ _)
theorem pa_e {w0 w : World} {g2 g3 g5 g11 i ne S d1 f x y g : Nat} {B1 : Option Addr} {L SN : Int} {vS vC vE y0 y2 y3 : Value} {a : WA} {ss as' : List Int} {es : List Edg}
  (hM : PaM w0 w g5 L SN vS vC vE ss as' es) (h3 : Blk w0 g3 28 #[y0, .int .i64 (S : Int), y2, y3, .slice B1 ne d1]) (h11 : Blk w g11 95 #[.int .i64 (f : Int), .int .i64 (x : Int), .int .i64 (y : Int), .int .i64 (g : Int)]) (j1 : Sl w0 w0.heap.size 3 encE B1 a.edges) (hne : ne = a.edges.length) (hSe : a.states = (S : Int)) (hf : f ≤ 400) (hg : g ≤ 400) (hS : S ≤ 400) (hin : ∀ e ∈ a.edges, inN S e.frm = true ∧ inN S e.to = true) (hl : es.length + ne ≤ 3000000)
  {u0 u1 u2 u4 u6 u7 u8 u9 u10 u13 u14 u15 u16 u17 u18 u19 u20 u21 u22 u23 u24 u25 u26 u27 u28 u29 u30 u31 u32 u33 u34 u35 u36 u37 u38 u39 u40 u41 u42 u43 u44 u45 u46 u47 u48 u49 u50 u51 u52 u53 u54 u55 u56 u57 u58 u59 u60 u61 u62 u63 u64 u65 u66 u67 u68 u69 u70 u71 u72 u73 u74 u75 u76 u77 u78 u79 u80 u81 u82 u83 u84 u85 u86 u87 u88 u89 u90 u91 u92 u93 u94 u95 u96 u97 u98 u99 u100 u101 u102 u103 u104 u105 u106 u107 u108 u109 u110 u111 u112 u113 u114 u115 u116 u117 u118 u119 u120 u121 u122 u123 u124 u125 u126 u127 u128 u129 u130 u131 u132 u133 u134 u135 u136 u137 u138 u139 u140 u141 : Value}
  {Q : Exit → Act → World → Prop} (hN : Reg.NoQ Q)
  (hQ : ∀ (x12 x13 x100 x101 x102 x103 x104 x105 x106 x107 x108 x109 x110 x111 x112 x113 x114 x115 x116 x117 x118 x119 x120 x121 x122 x123 x124 x125 x126 x127 x128 x129 x130 x131 x132 x133 x134 x135 x136 x137 x138 x139 x140 : Value) (w' : World) (vv' : Value), PaM w0 w' g5 L SN vS vC vv' ss as' (es ++ prM a ⟨(f : Int), (x : Int), (y : Int), (g : Int)⟩) → Q (.exit 10) ⟨List.toArray (u0 :: u1 :: u2 :: (.pointer (some ⟨g3, 0, none⟩)) :: u4 :: (.pointer (some ⟨g5, 0, none⟩)) :: u6 :: u7 :: u8 :: u9 :: u10 :: (.pointer (some ⟨g11, 0, none⟩)) :: x12 :: x13 :: u14 :: u15 :: u16 :: u17 :: u18 :: u19 :: u20 :: u21 :: u22 :: u23 :: u24 :: u25 ::
   u26 :: u27 :: u28 :: u29 :: u30 :: u31 :: u32 :: u33 :: u34 :: u35 :: u36 :: u37 :: u38 :: u39 :: u40 :: u41 :: u42 :: u43 :: u44 :: u45 :: u46 :: u47 :: u48 :: u49 :: u50 :: u51 :: u52 :: u53 :: u54 :: u55 :: u56 :: u57 :: u58 :: u59 :: u60 :: u61 :: u62 ::
   u63 :: u64 :: u65 :: u66 :: u67 :: u68 :: u69 :: u70 :: u71 :: u72 :: u73 :: u74 :: u75 :: u76 :: u77 :: u78 :: u79 :: u80 :: u81 :: u82 :: u83 :: u84 :: u85 :: u86 :: u87 :: u88 :: u89 :: u90 :: u91 :: u92 :: u93 :: u94 :: u95 :: u96 :: u97 :: u98 :: u99 ::
   x100 :: x101 :: x102 :: x103 :: x104 :: x105 :: x106 :: x107 :: x108 :: x109 :: x110 :: x111 :: x112 :: x113 :: x114 :: x115 :: x116 :: x117 :: x118 :: x119 :: x120 :: x121 :: x122 :: x123 :: x124 :: x125 :: x126 :: x127 :: x128 :: x129 :: x130 :: x131 :: x132 ::
   x133 :: x134 :: x135 :: x136 :: x137 :: x138 :: x139 :: x140 :: u141 :: []), []⟩ w') :
  (Code.loop (loopBody Tryz.f31 5)).wp Tryz.prog Q ⟨List.toArray (u0 :: u1 :: u2 :: (.pointer (some ⟨g3, 0, none⟩)) :: u4 :: (.pointer (some ⟨g5, 0, none⟩)) :: u6 :: u7 :: u8 :: u9 :: u10 :: (.pointer (some ⟨g11, 0, none⟩)) :: (.int .i64 0) :: u13 :: u14 :: u15 :: u16 :: u17 :: u18 :: u19 :: u20 :: u21 :: u22 :: u23 :: u24 ::
   u25 :: u26 :: u27 :: u28 :: u29 :: u30 :: u31 :: u32 :: u33 :: u34 :: u35 :: u36 :: u37 :: u38 :: u39 :: u40 :: u41 :: u42 :: u43 :: u44 :: u45 :: u46 :: u47 :: u48 :: u49 :: u50 :: u51 :: u52 :: u53 :: u54 :: u55 :: u56 :: u57 :: u58 :: u59 :: u60 :: u61 ::
   u62 :: u63 :: u64 :: u65 :: u66 :: u67 :: u68 :: u69 :: u70 :: u71 :: u72 :: u73 :: u74 :: u75 :: u76 :: u77 :: u78 :: u79 :: u80 :: u81 :: u82 :: u83 :: u84 :: u85 :: u86 :: u87 :: u88 :: u89 :: u90 :: u91 :: u92 :: u93 :: u94 :: u95 :: u96 :: u97 :: u98 ::
   u99 :: u100 :: u101 :: u102 :: u103 :: u104 :: u105 :: u106 :: u107 :: u108 :: u109 :: u110 :: u111 :: u112 :: u113 :: u114 :: u115 :: u116 :: u117 :: u118 :: u119 :: u120 :: u121 :: u122 :: u123 :: u124 :: u125 :: u126 :: u127 :: u128 :: u129 :: u130 :: u131 ::
   u132 :: u133 :: u134 :: u135 :: u136 :: u137 :: u138 :: u139 :: u140 :: u141 :: []), []⟩ w := by
 conv => arg 2; arg 1; whnf
 have hMH := hide hM
 have h3H := hide h3
 have h11H := hide h11
 have j1H := hide j1
 have hneH := hide hne
 have hSeH := hide hSe
 have hinH := hide hin
 have hln := j1.1
 rw [← hne] at hln
 obtain ⟨m, hm⟩ : ∃ m : Mv, m = ⟨(f : Int), (x : Int), (y : Int), (g : Int)⟩ := ⟨_, rfl⟩
 rw [← hm] at hQ
 have hmH := hide hm
 clear hM h3 h11 j1 hne hSe hin hm
 go_loopw [12] (fun ii wr => ∃ (k : Nat) (vv : Value), ii = .int .i64 (k : Int) ∧ k ≤ ne ∧ Hid (PaM w0 wr g5 L SN vS vC vv ss as' (es ++ prK a m k)) ∧ Hid (Blk wr g11 95 #[.int .i64 (f : Int), .int .i64 (x : Int), .int .i64 (y : Int), .int .i64 (g : Int)])) (fun ii _ => ne - (intOf ii).toNat)
 case atStart => exact ⟨0, vE, rfl, Nat.zero_le _, by rw [prK_zero, List.append_nil]; exact hMH, h11H⟩
 case round =>
  obtain ⟨k, vv, rfl, hk, hI, hB11⟩ := hrel
  have f3 := (h3H.out.below hI.out.below).cell
  by_cases hlt : k < ne
  ·obtain ⟨ba, oa, ⟨e0, e1, e2⟩, rfl, hba, hq, hca⟩ := (j1H.out.keep (w' := wr) (B' := w0.heap.size) (fun p hp => hI.out.below.cell hp) (Nat.le_refl _)).at (k := k) (by rw [← hneH.out]; exact hlt)
   have r0 := hca 0 (by omega)
   have r1 := hca 1 (by omega)
   have r2 := hca 2 (by omega)
   simp only [Nat.add_zero, encE] at r0 r1 r2
   obtain ⟨i1, i2⟩ := hinH.out _ (List.mem_of_getElem? hq)
   obtain ⟨q0, hq0, hqS⟩ := inN_nat i1
   obtain ⟨q2, hq2, hqT⟩ := inN_nat i2
   dsimp only at hq0 hq2
   subst hq0 hq2
   have hqS : q0 < S := by simpa using hqS
   have hqT : q2 < S := by simpa using hqT
   obtain ⟨w5, hw5, hb5, hB5, hk5⟩ := box_blk wr #[.int .i64 (q0 : Int), .int .i64 e1, .int .i64 (q2 : Int)] 65
   have hM5 := hide (hI.out.keep hb5)
   have h115 := hide (hB11.out.below hb5)
   have f35 := (h3H.out.below hM5.out.below).cell
   have f115 := h115.out.cell
   have f5 := hB5.cell
   have fb := hM5.out.box.cell
   have hb1 : f * S ≤ 400 * 400 := Nat.mul_le_mul hf hS
   have hb2 : g * S ≤ 400 * 400 := Nat.mul_le_mul hg hS
   have hB5H := hide hB5
   have hub := hide (fun gg (e : vv.ownBlock = some gg) => own_lt hI.out.eds e)
   have hqH := hide hq
   clear hca hq i1 i2 hb5 hB5 hk5
   by_cases hle : (x : Int) = e1
   ·have hyes := hide (prK_yes (a := a) (m := m) hqH.out (by rw [hmH.out]; exact hle.symm))
    have hpr := hide (show prE a.states m ⟨(q0 : Int), e1, (q2 : Int)⟩ = ⟨(f : Int) * (S : Int) + (q0 : Int), (y : Int), (g : Int) * (S : Int) + (q2 : Int)⟩ from by rw [hmH.out, hSeH.out]; rfl)
    have hrow := hM5.out.eds
    obtain ⟨Av, cv, rfl⟩ := slice_of_own hrow
    have hlen : (es ++ prK a m k).length + 1 ≤ 4000000 := by
     have := prK_len a m k
     rw [List.length_append]
     omega
    obtain ⟨ml, hml⟩ : ∃ ml, ml = (es ++ prK a m k).length := ⟨_, rfl⟩
    rw [← hml] at hrow hlen fb
    have hmlH := hide hml
    have hsz := hM5.out.below.size
    have hM5b := hM5.out
    rw [← hml] at hM5b
    have hM5c := hide hM5b
    subst hle
    clear hml hM5b hub
    go_wp2_with (
     at_builtin
     refine wpList_app_new (w := w5) row35 rfl _ _ rfl w0.heap.size (.slice Av ml cv) ml _ rfl hrow [.int .i64 ((f : Int) * (S : Int) + (q0 : Int)), .int .i64 (y : Int), .int .i64 ((g : Int) * (S : Int) + (q2 : Int))] 1 rfl rfl (by simp [Value.oneCell']) hlen hsz ?_
     intro g6 cap w6 hown6 hk6 hmv6 hg6
     have hst := hide (hM5c.out.addE (d := ⟨(f : Int) * (S : Int) + (q0 : Int), (y : Int), (g : Int) * (S : Int) + (q2 : Int)⟩) hk6 (by rw [← hmlH.out]; exact hown6))
     have h6 := hM5c.out.box.kept hk6 (own_blk_ne hrow hM5c.out.box (by decide))
     have h116 := hide ((h115.out.kept hk6 (own_blk_ne hrow h115.out (by decide))).kept ((Kept.refl w6 (fun b => b = g5)).setCell (p := ⟨g5, 4, none⟩) (fun _ => rfl) (.slice (some ⟨g6, 0, none⟩) (ml + 1) cap)) (fun e => h115.out.ne_ hM5c.out.box (by decide) e))
     have z1 := h6.frozen
     have z2 := h6.lt
     have z3 := h6.cell
     clear hown6 hk6 hmv6 h6)
    refine ⟨⟨k + 1, .slice (some ⟨g6, 0, none⟩) (ml + 1) cap, by go_num, by omega, ?_, h116⟩, by simp [intOf]; omega⟩
    rw [hyes.out, hpr.out, ← List.append_assoc]
    exact hst
   ·have hno := hide (prK_no (a := a) (m := m) hqH.out (by rw [hmH.out]; exact fun e => hle e.symm))
    go_wp2_with fail
    refine ⟨⟨k + 1, vv, by go_num, by omega, ?_, h115⟩, by simp [intOf]; omega⟩
    rw [hno.out]
    exact hM5
  ·obtain rfl : k = ne := by omega
   have hIo := hI.out
   rw [prK_all (by rw [← hneH.out]; exact Nat.le_refl _)] at hIo
   have hIoH := hide hIo
   clear hIo hI
   go_wp2_with fail
   first | exact hIoH.out | exact hQ _ _ _ _ _ _ _ _ _ _ _ _ _ _ _ _ _ _ _ _ _ _ _ _ _ _ _ _ _ _ _ _ _ _ _ _ _ _ _ _ _ _ _ wr _ hIoH.out
end Go.Proofs.YtpmceapjnnkhjaaGreatDoor
