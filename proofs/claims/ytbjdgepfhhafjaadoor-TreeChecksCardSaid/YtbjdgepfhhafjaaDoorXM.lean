/-
  Part XM of a proof.
-/
import Derived.Test.YtbjdgepfhhafjaaDoorXA
import Derived.Test.YtbjdgepfhhafjaaDoorXK
import Derived.Test.YtbjdgepfhhafjaaDoorXJ
set_option maxHeartbeats 16000000
set_option maxRecDepth 100000
set_option linter.unusedVariables false
set_option linter.unusedSimpArgs false
namespace Go.Proofs.YtbjdgepfhhafjaaDoor
open Go.RowKit
attribute [-go_sem] loadCellsFrom storeCells
theorem rr_k1 {w : World} {cs : List Value} {p : ProtD} {r : RuleD} {i : Nat} (h : ProtIs w w.heap.size cs p) (hr : p.rules[i]? = some r) (hs : r.Small) (hnm : r.name.size ≤ 500) (hsm : p.Small) (hT : SpOK w) (htk : Hid (((p.rules.take i).any fun x => decide (x.name = r.name)) = false)) (hok : Hid (nameOK r.name = true)) (hki : Hid (inC r.kind 1 5 = true)) (hcl : (decide (r.kind ≤ 3) != (p.topo == 1)) = false) (hun : Hid (unusedR p.topo r = false)) (hkd : r.kind = 1) :
  Calls Tryd.prog 47 #[.agg cs.toArray, .int .i64 (i : Int)] w (Ret fun v w' => v = .int .i64 (ruleE nameOK p.topo (p.states.length : Int) (p.messages.length : Int) (p.values.length : Int) false r) ∧ Below w.heap.size w w') := by
 obtain ⟨A1, c1, A2, c2, A3, c3, A4, c4, A5, c5, A6, c6, A7, c7, hpsz, hp0, hp1, hp2, hp3, hp4, hp5, hp6, hp7, hp8, hp9, -, -, -, -, -, -, h7, hcap⟩ := h.cells
 have hil := lt_of_get hr
 have hn1 := hsm.states
 have hn2 := hsm.messages
 have hn3 := hsm.values
 have hn7 := hsm.rules
 have hRw := hide h7
 obtain ⟨w1, hw1, hb1, hB1, hk1⟩ := box_blk w cs.toArray 27
 have hb1d := hb1.trans ((drewB w1).mono hb1.size)
 have hB1d : Blk w1.drew w.heap.size 27 cs.toArray := hB1
 obtain ⟨b, off, rc, hA, hbk, hC, hcs, hlc⟩ := rows_rule (h7.keep (w' := w1.drew) (B' := w.heap.size) (R' := RuleIs w1.drew w.heap.size) (fun _ hp => hb1d.cell hp) (fun _ _ h => h.keep (fun _ hp => hb1d.cell hp) (Nat.le_refl _)) (Nat.le_refl _)) hr
 obtain ⟨w2, hw2, hb2, hB2, hk2⟩ := box_blk w1.drew rc 51
 have hB2' : Blk w2 w1.heap.size 51 rc := hB2
 have hsc0 := store_new w1.drew 51 18 (by kernel_rfl) hC.size hC.one
 rw [hw2] at hsc0
 have hsc : ∀ c : Array Value, c.size = 18 → (storeCells ⟨w1.heap.size, 0, none⟩ rc.toList 0).run Tryd.prog (w1.alloc (.cells c 51)).drew = .ok () w2 := hsc0
 clear hsc0
 have hB12 := hB1d.below hb2
 have hb02 := hide (hb1d.trans (hb2.mono hb1d.size))
 have hX2 := hide (show RuleX w2 w.heap.size w1.heap.size cs.toArray rc p r from ⟨h.keep (fun _ hp => hb02.out.cell hp) hb02.out.size, hC.is.keep (fun _ hp => hb2.cell (by show _ < w1.heap.size; have := hb1.size; omega)) hb02.out.size, hB12, hB2', hT.below hb02.out⟩)
 have hrc := hC.is.cells
 simp only [Array.toArray_toList] at hrc
 obtain ⟨E1, f1, E2, f2, E3, f3, E4, f4, E5, f5, E6, f6, E7, f7, E8, f8, ⟨hrsz, hr0, hr1, hr2, hr3, hr4, hr5, hr6, hr7, hr8, hr9, hr10, hr11, hr12, hr13, hr14, hr15, hr16, hr17⟩, ⟨hS1, hS2, hS3, hS4, hS5, hS6, hS7, hS8⟩⟩ := hrc
 have hbk2 : ∀ {D : Type} {sz : Nat} {enc : D → Nat → Value} {A : Option Addr} {ds : List D}, Sl w1.drew w.heap.size sz enc A ds → Sl w w.heap.size sz enc A ds := fun h => h.keep (fun _ hp => (hb1d.cell hp).symm) (Nat.le_refl _)
 have hT1 := hide (hbk2 hS1)
 have hT2 := hide (hbk2 hS2)
 have hT3 := hide (hbk2 hS3)
 have hT4 := hide (hbk2 hS4)
 have hT5 := hide (hbk2 hS5)
 have hT6 := hide (hbk2 hS6)
 have hT7 := hide (hbk2 hS7)
 have hT8 := hide (hbk2 hS8)
 have hc1 := hB1d.cell
 have hB1dH := hide hB1d
 have hB12H := hide hB12
 generalize hpc : cs.toArray = pc at *
 have hpszH := hide hpsz
 obtain ⟨hs1, hs2, hs3, hs4, hs5, hs6, hs7, hs8⟩ := hs
 have hsH := hide (show r.Small from ⟨hs1, hs2, hs3, hs4, hs5, hs6, hs7, hs8⟩)
 have hrH := hide hr
 have hcapN := hcap
 have hnuH := hide (show i < p.rules.length from hil)
 obtain ⟨ns, hns⟩ : ∃ n, n = p.states.length := ⟨_, rfl⟩
 obtain ⟨nm, hnm'⟩ : ∃ n, n = p.messages.length := ⟨_, rfl⟩
 obtain ⟨nv, hnv⟩ : ∃ n, n = p.values.length := ⟨_, rfl⟩
 have hLH := hide (show ns = p.states.length ∧ nm = p.messages.length ∧ nv = p.values.length from ⟨hns, hnm', hnv⟩)
 rw [← hns] at hp2 hn1 ⊢
 rw [← hnm'] at hp3 hn2 ⊢
 rw [← hnv] at hp4 hn3 ⊢
 obtain ⟨EV, hEV⟩ : ∃ e, Hid (ruleE nameOK p.topo (ns : Int) (nm : Int) (nv : Int) false r = e) := ⟨_, rfl⟩
 rw [hEV.out]
 subst hA
 clear hcs hC hk1 hk2 hb1 hb2 hb1d hB1 hB2 hB2' hB1d hB12 hpsz hpc hr h h7 hns hnm' hnv hT hsm hS1 hS2 hS3 hS4 hS5 hS6 hS7 hS8 hbk2
 have hKOK := hide (show KOK nameOK p.topo r from ⟨hok.out, hki.out, hcl, hun.out⟩)
 have hUn := hide (un_of hun.out)
 have hV0 := hide (hEV.out.symm.trans (rk_1 hKOK.out hkd))
 have q1 : (r.kind == 1) = true := by rw [hkd]; rfl
 have q2 : (r.kind == 2) = false := by rw [hkd]; rfl
 have q3 : (r.kind == 3) = false := by rw [hkd]; rfl
 have q4 : (r.kind == 4) = false := by rw [hkd]; rfl
 have q5 : (r.kind == 5) = false := by rw [hkd]; rfl
 have hkdH := hide hkd
 clear hkd
 have hzl := hide (show r.left = [] ∧ r.right = [] ∧ r.parent = [] from hUn.out.l (by rw [hkdH.out]; decide))
 have hexs : ∀ wx, Below w.heap.size w wx → Calls Tryd.prog 30 #[.slice E3 r.ex.length f3, .int .i64 (ns : Int)] wx (Ret fun v w' => v = .int .i64 (setE r.ex (ns : Int)) ∧ Below wx.heap.size wx w') := fun wx hx => refset_any (by omega) (hT3.out.keep (fun _ hp => hx.cell hp) hx.size)
 have hfas : ∀ wx, Below w.heap.size w wx → Calls Tryd.prog 30 #[.slice E4 r.fa.length f4, .int .i64 (ns : Int)] wx (Ret fun v w' => v = .int .i64 (setE r.fa (ns : Int)) ∧ Below wx.heap.size wx w') := fun wx hx => refset_any (by omega) (hT4.out.keep (fun _ hp => hx.cell hp) hx.size)
 have hsen : ∀ wx, Below w.heap.size w wx → Calls Tryd.prog 30 #[.slice E5 r.send.length f5, .int .i64 (nm : Int)] wx (Ret fun v w' => v = .int .i64 (setE r.send (nm : Int)) ∧ Below wx.heap.size wx w') := fun wx hx => refset_any (by omega) (hT5.out.keep (fun _ hp => hx.cell hp) hx.size)
 have hlef : ∀ wx, Below w.heap.size w wx → Calls Tryd.prog 30 #[.slice E6 r.left.length f6, .int .i64 (ns : Int)] wx (Ret fun v w' => v = .int .i64 (setE r.left (ns : Int)) ∧ Below wx.heap.size wx w') := fun wx hx => refset_any (by omega) (hT6.out.keep (fun _ hp => hx.cell hp) hx.size)
 have hrig : ∀ wx, Below w.heap.size w wx → Calls Tryd.prog 30 #[.slice E7 r.right.length f7, .int .i64 (ns : Int)] wx (Ret fun v w' => v = .int .i64 (setE r.right (ns : Int)) ∧ Below wx.heap.size wx w') := fun wx hx => refset_any (by omega) (hT7.out.keep (fun _ hp => hx.cell hp) hx.size)
 have hpar : ∀ wx, Below w.heap.size w wx → Calls Tryd.prog 30 #[.slice E8 r.parent.length f8, .int .i64 (ns : Int)] wx (Ret fun v w' => v = .int .i64 (setE r.parent (ns : Int)) ∧ Below wx.heap.size wx w') := fun wx hx => refset_any (by omega) (hT8.out.keep (fun _ hp => hx.cell hp) hx.size)
 have hcl2 : decide (r.kind ≤ 3) = (p.topo == 1) := by cases h1 : decide (r.kind ≤ 3) <;> cases h2 : (p.topo == 1) <;> simp [h1, h2] at hcl ⊢
 have hclH := hide hcl
 clear hcl
 go_enter Tryd.func47, Tryd.ntmps47
 go_wp2_with fail
 refine Reg.cI [0, 1, 0, 7, 15, 0, 32, 96, 0, 287, 1023] [0, 1, 2, 3, 4, 5, 6, 7, 8, 9, 10] ?_
 refine Reg.wI [0, 1, 2, 3, 4, 5, 6, 7, 8] [9, 10] rfl fun Qf hQf => ?_
 go_wp2_with fail
 first | refine hQf _ _ ⟨rfl, ?_⟩ | refine ⟨rfl, ?_⟩ | refine hQf _ _ ⟨by simp [Reg.fineT, Reg.intOp, Region.wanted, yielded, Reg.intFine, Reg.isInt, Act.eval], ?_⟩
 try clear hQf
 refine Reg.aI 9 [10] [6] rfl fun Qf hQf => ?_
 simp only [gT, gS, gZ]
 go_wp2_with fail
 first | refine hQf _ _ ⟨?_, ?_⟩ | refine ⟨?_, ?_⟩
 ·intro z hz q hq
  simp only [List.mem_cons, List.not_mem_nil, or_false] at hz
  subst hz
  injection hq with hq
  subst hq
  exact Reg.same_load1 rfl rfl (((hB1dH.out.kept ((Kept.refl _ (fun _ => False)).alloc _) id).cell 2).trans hp2) ((hB12H.out.cell 2).trans hp2) Tryd.underlying22 rfl
 try clear hQf
 refine Reg.wI [10] [] rfl fun Qf hQf => ?_
 go_wp2_with fail
 first | refine hQf _ _ ⟨rfl, ?_⟩ | refine ⟨rfl, ?_⟩ | refine hQf _ _ ⟨by simp [Reg.fineT, Reg.intOp, Region.wanted, yielded, Reg.intFine, Reg.isInt, Act.eval], ?_⟩
 try clear hQf
 first | refine Reg.restI_end ?_ | skip
 have hrszH := hide hrsz
 clear hrsz hsc hlc
 have hc22 := hX2.out.b2.cell
 have hc52 := hX2.out.b5.cell
 go_wp2_with fail
 go_wp2_with (go_at_call 29; refine Calls.ret (refValidName_any r.name _ (by omega)) ?_; rintro v w3 ⟨rfl, hb3⟩; rw [hok.out]; have hX3 := hide (hX2.out.at hb3); have hc23 := hX3.out.b2.cell; have hc53 := hX3.out.b5.cell; have hb03 := hide (hb02.out.trans (hb3.mono hb02.out.size)); clear hb3)
 go_loopw [7] (fun ii wr => ∃ (k : Nat), ii = .int .i64 (k : Int) ∧ k ≤ i ∧ Hid (Below w3.heap.size w3 wr) ∧ Hid ((p.rules.take k).all (fun x => !decide (x.name = r.name)) = true)) (fun ii _ => i - (intOf ii).toNat)
 case atStart => exact ⟨0, rfl, Nat.zero_le _, Below.refl _ _, by show _ = _; simp⟩
 case round =>
  obtain ⟨k, rfl, hk, hbr, hE⟩ := hrel
  have hX4 := hide (hX3.out.at hbr.out)
  have hc24 := hX4.out.b2.cell
  have hc54 := hX4.out.b5.cell
  have hb04 := hide (hb03.out.trans (hbr.out.mono hb03.out.size))
  by_cases hlt : k < i
  ·obtain ⟨x, hx⟩ : ∃ x, p.rules[k]? = some x := ⟨_, List.getElem?_eq_getElem (by have := hnuH.out; omega)⟩
   obtain ⟨b', off', xc, hA', hbk', hCx, hcsx, -⟩ := rows_rule (hRw.out.keep (w' := wr) (B' := w.heap.size) (R' := RuleIs wr w.heap.size) (fun _ hp => hb04.out.cell hp) (fun _ _ h => h.keep (fun _ hp => hb04.out.cell hp) (Nat.le_refl _)) (Nat.le_refl _)) hx
   have e1 := Option.some.inj hA'
   injection e1 with e1 e2 _
   subst e1 e2
   have hx0 := hCx.is.cells
   simp only [Array.toArray_toList] at hx0
   obtain ⟨-, -, -, -, -, -, -, -, -, -, -, -, -, -, -, -, ⟨-, hx0, -⟩, -⟩ := hx0
   have hxn := hcsx 0 _ hx0
   simp only [Nat.add_zero] at hxn
   have hxH := hide hx
   clear hcsx hCx hx hx0 hA'
   by_cases hEq : x.name = r.name
   ·exfalso
    have h1 := htk.out
    rw [List.any_eq_false] at h1
    refine h1 x (List.mem_of_getElem? (i := k) ?_) (decide_eq_true hEq)
    rw [List.getElem?_take, if_pos hlt]
    exact hxH.out
   ·have hq : (x.name.toList == r.name.toList) = false := by rw [bytes_eq]; exact decide_eq_false hEq
    have hnx := hide (all_take_more (p := fun x : RuleD => !decide (x.name = r.name)) hxH.out hE.out (by simp [hEq]))
    have hbd := hide (hbr.out.trans ((drewB wr).mono hbr.out.size))
    clear hEq
    go_wp2_with fail
    refine Reg.cP [0, 1, 0, 7, 15, 31, 0, 64, 255] ?_
    go_wp2_with fail
    exact ⟨⟨k + 1, by go_num, by omega, hbd.out, hnx.out⟩, by simp [intOf]; omega⟩
  ·clear hE
   have hl24 := blk_load hX4.out.b2 hpszH.out
   have hl54 := blk_load hX4.out.b5 hrszH.out
   go_wp2_with (first
    | (go_at_call 32; refine (within2_any _ _ _ _).mono ?_; rintro e w' ⟨rfl, rfl⟩; rw [hki.out])
    | (go_at_call 71; refine Calls.ret (unused_any hX4.out.pr hX4.out.ru hsH.out) ?_; rintro v w5 ⟨rfl, hb5⟩; rw [hun.out]; have hX5 := hide (hX4.out.at hb5); have hc25 := hX5.out.b2.cell; have hc55 := hX5.out.b5.cell; have hb05 := hide (hb04.out.trans (hb5.mono hb04.out.size)); clear hb5))
   obtain ⟨ng, hng⟩ : ∃ n, n = r.guards.length := ⟨_, rfl⟩
   rw [← hng] at hr7 hs2
   have hngH := hide hng
   clear hng
   cases hfr : inC r.fr 0 ((ns : Int) - 1)
   case false =>
    have Ffr := hide hfr
    clear hfr
    refine (within2_any _ _ _ _).mono ?_; rintro e w' ⟨rfl, rfl⟩; rw [Ffr.out]; go_wp2_with fail
    go_ret
    exact ⟨congrArg (Value.int .i64) (hV0.out.trans (by rw [show inN r.fr (ns : Int) = false from Ffr.out]; rfl)).symm, hb05.out⟩
   have Ffr := hide hfr
   clear hfr
   refine (within2_any _ _ _ _).mono ?_; rintro e w' ⟨rfl, rfl⟩; rw [Ffr.out]; go_wp2_with fail
   cases hto : inC r.to 0 ((ns : Int) - 1)
   case false =>
    have Fto := hide hto
    clear hto
    refine (within2_any _ _ _ _).mono ?_; rintro e w' ⟨rfl, rfl⟩; rw [Fto.out]; go_wp2_with fail
    go_ret
    exact ⟨congrArg (Value.int .i64) (hV0.out.trans (by rw [show inN r.fr (ns : Int) = true from Ffr.out, show inN r.to (ns : Int) = false from Fto.out]; rfl)).symm, hb05.out⟩
   have Fto := hide hto
   clear hto
   refine (within2_any _ _ _ _).mono ?_; rintro e w' ⟨rfl, rfl⟩; rw [Fto.out]; go_wp2_with fail
   have hV1 := hide (show EV = orE (allE (guardE (nm : Int)) r.guards) (orE (whenE (decide (2 < r.guards.length)) 4) (orE (setE r.ex (ns : Int)) (orE (setE r.fa (ns : Int)) (orE (whenE (!valB r.rd (nv : Int) || !valB r.wr (nv : Int)) 5) (setE r.send (nm : Int)))))) from hV0.out.trans (by rw [show inN r.fr (ns : Int) = true from Ffr.out, show inN r.to (ns : Int) = true from Fto.out]; rfl))
   go_loopw [10] (fun ii wr => ∃ (k : Nat), ii = .int .i64 (k : Int) ∧ k ≤ ng ∧ Hid (Below w5.heap.size w5 wr) ∧ Hid (allE (guardE (nm : Int)) (r.guards.take k) = 0)) (fun ii _ => ng - (intOf ii).toNat)
   case atStart => exact ⟨0, rfl, Nat.zero_le _, Below.refl _ _, by show _ = _; rfl⟩
   case round =>
    obtain ⟨k, rfl, hk, hbr2, hE2⟩ := hrel
    have hX6 := hide (hX5.out.at hbr2.out)
    have hc26 := hX6.out.b2.cell
    have hc56 := hX6.out.b5.cell
    have hb06 := hide (hb05.out.trans (hbr2.out.mono hb05.out.size))
    by_cases hlt2 : k < ng
    ·obtain ⟨b2, off2, g, hA2, hbk2, hg, hcg⟩ := (hT2.out.keep (w' := wr) (B' := w.heap.size) (fun _ hp => hb06.out.cell hp) (Nat.le_refl _)).at (k := k) (by have := hngH.out; omega)
     have hlcg : (loadCellsFrom ⟨b2, off2 + k * 6, none⟩ 0 6 #[]).run Tryd.prog wr = .ok #[.int .i64 g.msg, .int .i64 g.coef, .int .i64 g.bound.c, .int .i64 g.bound.n, .int .i64 g.bound.t, .int .i64 g.bound.f] wr := by
      have := run_loadCells_list (P := Tryd.prog) wr ⟨b2, off2 + k * 6, none⟩ (cellsT g) (fun k v hv => by
       rw [Addr.add_mid]
       have hk := lt_of_get hv
       rw [hcg k hk]
       match k, hk, hv with
       | 0, _, hv => exact congrArg some (Option.some.inj hv)
       | 1, _, hv => exact congrArg some (Option.some.inj hv)
       | 2, _, hv => exact congrArg some (Option.some.inj hv)
       | 3, _, hv => exact congrArg some (Option.some.inj hv)
       | 4, _, hv => exact congrArg some (Option.some.inj hv)
       | 5, _, hv => exact congrArg some (Option.some.inj hv))
      simpa [loadCells, cellsT] using this
     obtain ⟨w7, hw7, hb7, hB7, hk7⟩ := box_blk wr #[.int .i64 g.msg, .int .i64 g.coef, .int .i64 g.bound.c, .int .i64 g.bound.n, .int .i64 g.bound.t, .int .i64 g.bound.f] 113
     have hsc7 : ∀ c : Array Value, c.size = 6 → (storeCells ⟨wr.heap.size, 0, none⟩ [.int .i64 g.msg, .int .i64 g.coef, .int .i64 g.bound.c, .int .i64 g.bound.n, .int .i64 g.bound.t, .int .i64 g.bound.f] 0).run Tryd.prog (wr.alloc (.cells c 113)) = .ok () w7 := fun c hc => by rw [← hw7]; exact store_new wr 113 6 (by kernel_rfl) (rc := #[.int .i64 g.msg, .int .i64 g.coef, .int .i64 g.bound.c, .int .i64 g.bound.n, .int .i64 g.bound.t, .int .i64 g.bound.f]) rfl (by simp [Value.oneCell']) c hc
     have hc77 := hB7.cell
     have hl7 : (loadCellsFrom ⟨wr.heap.size, 2, none⟩ 0 4 #[]).run Tryd.prog w7 = .ok #[.int .i64 g.bound.c, .int .i64 g.bound.n, .int .i64 g.bound.t, .int .i64 g.bound.f] w7 := by
      have := run_loadCells_list (P := Tryd.prog) w7 ⟨wr.heap.size, 2, none⟩ [.int .i64 g.bound.c, .int .i64 g.bound.n, .int .i64 g.bound.t, .int .i64 g.bound.f] (fun j v hv => by
       rw [Addr.add_mid, hB7.cell]
       have hj := lt_of_get hv
       match j, hj, hv with
       | 0, _, hv => exact congrArg some (Option.some.inj hv)
       | 1, _, hv => exact congrArg some (Option.some.inj hv)
       | 2, _, hv => exact congrArg some (Option.some.inj hv)
       | 3, _, hv => exact congrArg some (Option.some.inj hv))
      simpa [loadCells] using this
     have hgH := hide hg
     have hX7 := hide (hX6.out.at hb7)
     have hc27 := hX7.out.b2.cell
     have hc57 := hX7.out.b5.cell
     have hb07 := hide (hb06.out.trans (hb7.mono hb06.out.size))
     have hb27 := hide (hbr2.out.trans (hb7.mono hbr2.out.size))
     clear hb7
     subst hA2
     clear hcg hg hk7 hB7
     go_wp2_with fail
     cases hmsg : inC g.msg 0 ((nm : Int) - 1)
     case false =>
      have Fmsg := hide hmsg
      clear hmsg
      have hst := hide (show allE (guardE (nm : Int)) r.guards = 5 from by
       have h1 : guardE (nm : Int) g = 5 := by
        unfold guardE
        rw [inE_inC, Fmsg.out]
        rfl
       rw [allE_stop (guardE (nm : Int)) hgH.out hE2.out (by rw [h1]; decide), h1])
      refine (within2_any _ _ _ _).mono ?_; rintro e w' ⟨rfl, rfl⟩; rw [Fmsg.out]; go_wp2_with fail
      go_ret
      exact ⟨congrArg (Value.int .i64) (hV1.out.trans (by rw [hst.out]; rfl)).symm, hb07.out⟩
     have Fmsg := hide hmsg
     clear hmsg
     refine (within2_any _ _ _ _).mono ?_; rintro e w' ⟨rfl, rfl⟩; rw [Fmsg.out]; go_wp2_with fail
     cases hcof : inC g.coef 1 100
     case false =>
      have Fcof := hide hcof
      clear hcof
      have hst := hide (show allE (guardE (nm : Int)) r.guards = 1 from by
       have h1 : guardE (nm : Int) g = 1 := by
        unfold guardE
        rw [inE_inC, Fmsg.out, show (decide (1 ≤ g.coef) && decide (g.coef ≤ 100)) = false from Fcof.out]
        rfl
       rw [allE_stop (guardE (nm : Int)) hgH.out hE2.out (by rw [h1]; decide), h1])
      refine (within2_any _ _ _ _).mono ?_; rintro e w' ⟨rfl, rfl⟩; rw [Fcof.out]; go_wp2_with fail
      go_ret
      exact ⟨congrArg (Value.int .i64) (hV1.out.trans (by rw [hst.out]; rfl)).symm, hb07.out⟩
     have Fcof := hide hcof
     clear hcof
     refine (within2_any _ _ _ _).mono ?_; rintro e w' ⟨rfl, rfl⟩; rw [Fcof.out]; go_wp2_with fail
     cases hlin : linB g.bound
     case false =>
      have Flin := hide hlin
      clear hlin
      have hst := hide (show allE (guardE (nm : Int)) r.guards = 4 from by
       have h1 : guardE (nm : Int) g = 4 := by
        unfold guardE
        rw [inE_inC, Fmsg.out, show (decide (1 ≤ g.coef) && decide (g.coef ≤ 100)) = true from Fcof.out, Flin.out]
        rfl
       rw [allE_stop (guardE (nm : Int)) hgH.out hE2.out (by rw [h1]; decide), h1])
      refine Calls.ret (few_any g.bound _) ?_; rintro v w8 ⟨rfl, hb8⟩; rw [Flin.out]; have hX8 := hide (hX7.out.at hb8); have hc28 := hX8.out.b2.cell; have hc58 := hX8.out.b5.cell; have hb08 := hide (hb07.out.trans (hb8.mono hb07.out.size)); clear hb8; go_wp2_with fail
      go_ret
      exact ⟨congrArg (Value.int .i64) (hV1.out.trans (by rw [hst.out]; rfl)).symm, hb08.out⟩
     have Flin := hide hlin
     clear hlin
     have hnx := hide (show allE (guardE (nm : Int)) (r.guards.take (k + 1)) = 0 from by
      rw [allE_take (guardE (nm : Int)) hgH.out hE2.out]
      unfold guardE
      rw [inE_inC, Fmsg.out, show (decide (1 ≤ g.coef) && decide (g.coef ≤ 100)) = true from Fcof.out, Flin.out]
      rfl)
     refine Calls.ret (few_any g.bound _) ?_; rintro v w8 ⟨rfl, hb8⟩; rw [Flin.out]; have hb28 := hide (hb27.out.trans (hb8.mono hb27.out.size)); clear hb8; go_wp2_with fail
     exact ⟨⟨k + 1, by go_num, by omega, hb28.out, hnx.out⟩, by simp [intOf]; omega⟩
    ·have hV2 := hide (show EV = orE (whenE (decide (2 < r.guards.length)) 4) (orE (setE r.ex (ns : Int)) (orE (setE r.fa (ns : Int)) (orE (whenE (!valB r.rd (nv : Int) || !valB r.wr (nv : Int)) 5) (setE r.send (nm : Int))))) from hV1.out.trans (by
      have h1 := hE2.out
      rw [List.take_of_length_le (by have := hngH.out; omega)] at h1
      rw [h1]
      rfl))
     clear hE2
     by_cases hg2 : 2 < ng
     case pos =>
      have Q2 : (2 : Int) < (ng : Int) := by omega
      go_wp2_with fail
      go_ret
      exact ⟨congrArg (Value.int .i64) (hV2.out.trans (by rw [decide_eq_true (show 2 < r.guards.length by have := hngH.out; omega)]; rfl)).symm, hb06.out⟩
     have Q2 : ¬ (2 : Int) < (ng : Int) := by omega
     have hV3 := hide (show EV = orE (setE r.ex (ns : Int)) (orE (setE r.fa (ns : Int)) (orE (whenE (!valB r.rd (nv : Int) || !valB r.wr (nv : Int)) 5) (setE r.send (nm : Int)))) from hV2.out.trans (by rw [decide_eq_false (show ¬ 2 < r.guards.length by have := hngH.out; omega)]; rfl))
     go_wp2_with fail
     obtain ⟨eexs, heexs⟩ : ∃ e, Hid (setE r.ex (ns : Int) = e) := ⟨_, rfl⟩
     by_cases h0exs : eexs = 0
     case neg =>
      have qexs : (eexs != 0) = true := by simp [h0exs]
      have H0 := hide h0exs
      clear h0exs
      refine Calls.ret (hexs _ hb06.out) ?_; rintro v w7 ⟨rfl, hb7⟩; rw [heexs.out]; have hX7 := hide (hX6.out.at hb7); have hc27 := hX7.out.b2.cell; have hc57 := hX7.out.b5.cell; have hb07 := hide (hb06.out.trans (hb7.mono hb06.out.size)); clear hb7; go_wp2_with fail
      go_ret
      exact ⟨congrArg (Value.int .i64) (hV3.out.trans (by rw [heexs.out]; exact orE_ne H0.out)).symm, hb07.out⟩
     have qexs : (eexs != 0) = false := by simp [h0exs]
     have H0exs := hide h0exs
     clear h0exs
     have hV4 := hide (show EV = orE (setE r.fa (ns : Int)) (orE (whenE (!valB r.rd (nv : Int) || !valB r.wr (nv : Int)) 5) (setE r.send (nm : Int))) from hV3.out.trans (by rw [heexs.out, H0exs.out]; rfl))
     refine Calls.ret (hexs _ hb06.out) ?_; rintro v w7 ⟨rfl, hb7⟩; rw [heexs.out]; have hX7 := hide (hX6.out.at hb7); have hc27 := hX7.out.b2.cell; have hc57 := hX7.out.b5.cell; have hb07 := hide (hb06.out.trans (hb7.mono hb06.out.size)); clear hb7; go_wp2_with fail
     obtain ⟨efas, hefas⟩ : ∃ e, Hid (setE r.fa (ns : Int) = e) := ⟨_, rfl⟩
     by_cases h0fas : efas = 0
     case neg =>
      have qfas : (efas != 0) = true := by simp [h0fas]
      have H0 := hide h0fas
      clear h0fas
      refine Calls.ret (hfas _ hb07.out) ?_; rintro v w8 ⟨rfl, hb8⟩; rw [hefas.out]; have hX8 := hide (hX7.out.at hb8); have hc28 := hX8.out.b2.cell; have hc58 := hX8.out.b5.cell; have hb08 := hide (hb07.out.trans (hb8.mono hb07.out.size)); clear hb8; go_wp2_with fail
      go_ret
      exact ⟨congrArg (Value.int .i64) (hV4.out.trans (by rw [hefas.out]; exact orE_ne H0.out)).symm, hb08.out⟩
     have qfas : (efas != 0) = false := by simp [h0fas]
     have H0fas := hide h0fas
     clear h0fas
     have hV5 := hide (show EV = orE (whenE (!valB r.rd (nv : Int) || !valB r.wr (nv : Int)) 5) (setE r.send (nm : Int)) from hV4.out.trans (by rw [hefas.out, H0fas.out]; rfl))
     by_cases hzrd : r.rd = -1
     case pos =>
      have Yrd : (r.rd != -1) = false := by simp [hzrd]
      have Hrd := hide hzrd
      clear hzrd
      have V1 := hide (show valB r.rd (nv : Int) = true from by rw [Hrd.out]; exact val_m1 (by omega))
      by_cases hzwr : r.wr = -1
      case pos =>
       have Ywr : (r.wr != -1) = false := by simp [hzwr]
       have Hwr := hide hzwr
       clear hzwr
       have V2 := hide (show valB r.wr (nv : Int) = true from by rw [Hwr.out]; exact val_m1 (by omega))
       refine Calls.ret (hfas _ hb07.out) ?_; rintro v w8 ⟨rfl, hb8⟩; rw [hefas.out]; have hX8 := hide (hX7.out.at hb8); have hc28 := hX8.out.b2.cell; have hc58 := hX8.out.b5.cell; have hb08 := hide (hb07.out.trans (hb8.mono hb07.out.size)); clear hb8; go_wp2_with fail
       have hV6 := hide (show EV = setE r.send (nm : Int) from hV5.out.trans (by rw [V1.out, V2.out]; rfl))
       obtain ⟨esen, hesen⟩ : ∃ e, Hid (setE r.send (nm : Int) = e) := ⟨_, rfl⟩
       by_cases h0sen : esen = 0
       case neg =>
        have qsen : (esen != 0) = true := by simp [h0sen]
        have H0 := hide h0sen
        clear h0sen
        refine Calls.ret (hsen _ hb08.out) ?_; rintro v w9 ⟨rfl, hb9⟩; rw [hesen.out]; have hX9 := hide (hX8.out.at hb9); have hc29 := hX9.out.b2.cell; have hc59 := hX9.out.b5.cell; have hb09 := hide (hb08.out.trans (hb9.mono hb08.out.size)); clear hb9; go_wp2_with fail
        go_ret
        exact ⟨congrArg (Value.int .i64) (hV6.out.trans (by rw [hesen.out])).symm, hb09.out⟩
       have qsen : (esen != 0) = false := by simp [h0sen]
       have H0sen := hide h0sen
       clear h0sen
       have hV7 := hide (show EV = 0 from hV6.out.trans (by rw [hesen.out, H0sen.out]))
       refine Calls.ret (hsen _ hb08.out) ?_; rintro v w9 ⟨rfl, hb9⟩; rw [hesen.out]; have hX9 := hide (hX8.out.at hb9); have hc29 := hX9.out.b2.cell; have hc59 := hX9.out.b5.cell; have hb09 := hide (hb08.out.trans (hb9.mono hb08.out.size)); clear hb9; go_wp2_with fail
       have Zlef := hide (show setE r.left (ns : Int) = 0 from by rw [hzl.out.1]; rfl)
       refine Calls.ret (hlef _ hb09.out) ?_; rintro v wa ⟨rfl, hba⟩; rw [Zlef.out]; have hXa := hide (hX9.out.at hba); have hc2a := hXa.out.b2.cell; have hc5a := hXa.out.b5.cell; have hb0a := hide (hb09.out.trans (hba.mono hb09.out.size)); clear hba; go_wp2_with fail
       have Zrig := hide (show setE r.right (ns : Int) = 0 from by rw [hzl.out.2.1]; rfl)
       refine Calls.ret (hrig _ hb0a.out) ?_; rintro v wb ⟨rfl, hbb⟩; rw [Zrig.out]; have hXb := hide (hXa.out.at hbb); have hc2b := hXb.out.b2.cell; have hc5b := hXb.out.b5.cell; have hb0b := hide (hb0a.out.trans (hbb.mono hb0a.out.size)); clear hbb; go_wp2_with fail
       have Zpar := hide (show setE r.parent (ns : Int) = 0 from by rw [hzl.out.2.2]; rfl)
       refine Calls.ret (hpar _ hb0b.out) ?_; rintro v wc ⟨rfl, hbc⟩; rw [Zpar.out]; have hXc := hide (hXb.out.at hbc); have hc2c := hXc.out.b2.cell; have hc5c := hXc.out.b5.cell; have hb0c := hide (hb0b.out.trans (hbc.mono hb0b.out.size)); clear hbc; go_wp2_with fail
       go_ret
       exact ⟨congrArg (Value.int .i64) (hV7.out).symm, hb0c.out⟩
      have Ywr : (r.wr != -1) = true := by simp [hzwr]
      have Hwr := hide hzwr
      clear hzwr
      refine Calls.ret (hfas _ hb07.out) ?_; rintro v w8 ⟨rfl, hb8⟩; rw [hefas.out]; have hX8 := hide (hX7.out.at hb8); have hc28 := hX8.out.b2.cell; have hc58 := hX8.out.b5.cell; have hb08 := hide (hb07.out.trans (hb8.mono hb07.out.size)); clear hb8; go_wp2_with fail
      cases hxwr : inC r.wr 0 ((nv : Int) - 1)
      case false =>
       have Fxwr := hide hxwr
       clear hxwr
       have V2 := hide (show valB r.wr (nv : Int) = false from (val_in Hwr.out).trans Fxwr.out)
       refine (within2_any _ _ _ _).mono ?_; rintro e w' ⟨rfl, rfl⟩; rw [Fxwr.out]; go_wp2_with fail
       go_ret
       exact ⟨congrArg (Value.int .i64) (hV5.out.trans (by rw [V1.out, V2.out]; rfl)).symm, hb08.out⟩
      have Fxwr := hide hxwr
      clear hxwr
      have V2 := hide (show valB r.wr (nv : Int) = true from (val_in Hwr.out).trans Fxwr.out)
      refine (within2_any _ _ _ _).mono ?_; rintro e w' ⟨rfl, rfl⟩; rw [Fxwr.out]; go_wp2_with fail
      have hV6 := hide (show EV = setE r.send (nm : Int) from hV5.out.trans (by rw [V1.out, V2.out]; rfl))
      obtain ⟨esen, hesen⟩ : ∃ e, Hid (setE r.send (nm : Int) = e) := ⟨_, rfl⟩
      by_cases h0sen : esen = 0
      case neg =>
       have qsen : (esen != 0) = true := by simp [h0sen]
       have H0 := hide h0sen
       clear h0sen
       refine Calls.ret (hsen _ hb08.out) ?_; rintro v w9 ⟨rfl, hb9⟩; rw [hesen.out]; have hX9 := hide (hX8.out.at hb9); have hc29 := hX9.out.b2.cell; have hc59 := hX9.out.b5.cell; have hb09 := hide (hb08.out.trans (hb9.mono hb08.out.size)); clear hb9; go_wp2_with fail
       go_ret
       exact ⟨congrArg (Value.int .i64) (hV6.out.trans (by rw [hesen.out])).symm, hb09.out⟩
      have qsen : (esen != 0) = false := by simp [h0sen]
      have H0sen := hide h0sen
      clear h0sen
      have hV7 := hide (show EV = 0 from hV6.out.trans (by rw [hesen.out, H0sen.out]))
      refine Calls.ret (hsen _ hb08.out) ?_; rintro v w9 ⟨rfl, hb9⟩; rw [hesen.out]; have hX9 := hide (hX8.out.at hb9); have hc29 := hX9.out.b2.cell; have hc59 := hX9.out.b5.cell; have hb09 := hide (hb08.out.trans (hb9.mono hb08.out.size)); clear hb9; go_wp2_with fail
      have Zlef := hide (show setE r.left (ns : Int) = 0 from by rw [hzl.out.1]; rfl)
      refine Calls.ret (hlef _ hb09.out) ?_; rintro v wa ⟨rfl, hba⟩; rw [Zlef.out]; have hXa := hide (hX9.out.at hba); have hc2a := hXa.out.b2.cell; have hc5a := hXa.out.b5.cell; have hb0a := hide (hb09.out.trans (hba.mono hb09.out.size)); clear hba; go_wp2_with fail
      have Zrig := hide (show setE r.right (ns : Int) = 0 from by rw [hzl.out.2.1]; rfl)
      refine Calls.ret (hrig _ hb0a.out) ?_; rintro v wb ⟨rfl, hbb⟩; rw [Zrig.out]; have hXb := hide (hXa.out.at hbb); have hc2b := hXb.out.b2.cell; have hc5b := hXb.out.b5.cell; have hb0b := hide (hb0a.out.trans (hbb.mono hb0a.out.size)); clear hbb; go_wp2_with fail
      have Zpar := hide (show setE r.parent (ns : Int) = 0 from by rw [hzl.out.2.2]; rfl)
      refine Calls.ret (hpar _ hb0b.out) ?_; rintro v wc ⟨rfl, hbc⟩; rw [Zpar.out]; have hXc := hide (hXb.out.at hbc); have hc2c := hXc.out.b2.cell; have hc5c := hXc.out.b5.cell; have hb0c := hide (hb0b.out.trans (hbc.mono hb0b.out.size)); clear hbc; go_wp2_with fail
      go_ret
      exact ⟨congrArg (Value.int .i64) (hV7.out).symm, hb0c.out⟩
     have Yrd : (r.rd != -1) = true := by simp [hzrd]
     have Hrd := hide hzrd
     clear hzrd
     by_cases hzwr : r.wr = -1
     case pos =>
      have Ywr : (r.wr != -1) = false := by simp [hzwr]
      have Hwr := hide hzwr
      clear hzwr
      have V2 := hide (show valB r.wr (nv : Int) = true from by rw [Hwr.out]; exact val_m1 (by omega))
      refine Calls.ret (hfas _ hb07.out) ?_; rintro v w8 ⟨rfl, hb8⟩; rw [hefas.out]; have hX8 := hide (hX7.out.at hb8); have hc28 := hX8.out.b2.cell; have hc58 := hX8.out.b5.cell; have hb08 := hide (hb07.out.trans (hb8.mono hb07.out.size)); clear hb8; go_wp2_with fail
      cases hxrd : inC r.rd 0 ((nv : Int) - 1)
      case false =>
       have Fxrd := hide hxrd
       clear hxrd
       have V1 := hide (show valB r.rd (nv : Int) = false from (val_in Hrd.out).trans Fxrd.out)
       refine (within2_any _ _ _ _).mono ?_; rintro e w' ⟨rfl, rfl⟩; rw [Fxrd.out]; go_wp2_with fail
       go_ret
       exact ⟨congrArg (Value.int .i64) (hV5.out.trans (by rw [V1.out]; rfl)).symm, hb08.out⟩
      have Fxrd := hide hxrd
      clear hxrd
      have V1 := hide (show valB r.rd (nv : Int) = true from (val_in Hrd.out).trans Fxrd.out)
      refine (within2_any _ _ _ _).mono ?_; rintro e w' ⟨rfl, rfl⟩; rw [Fxrd.out]; go_wp2_with fail
      have hV6 := hide (show EV = setE r.send (nm : Int) from hV5.out.trans (by rw [V1.out, V2.out]; rfl))
      obtain ⟨esen, hesen⟩ : ∃ e, Hid (setE r.send (nm : Int) = e) := ⟨_, rfl⟩
      by_cases h0sen : esen = 0
      case neg =>
       have qsen : (esen != 0) = true := by simp [h0sen]
       have H0 := hide h0sen
       clear h0sen
       refine Calls.ret (hsen _ hb08.out) ?_; rintro v w9 ⟨rfl, hb9⟩; rw [hesen.out]; have hX9 := hide (hX8.out.at hb9); have hc29 := hX9.out.b2.cell; have hc59 := hX9.out.b5.cell; have hb09 := hide (hb08.out.trans (hb9.mono hb08.out.size)); clear hb9; go_wp2_with fail
       go_ret
       exact ⟨congrArg (Value.int .i64) (hV6.out.trans (by rw [hesen.out])).symm, hb09.out⟩
      have qsen : (esen != 0) = false := by simp [h0sen]
      have H0sen := hide h0sen
      clear h0sen
      have hV7 := hide (show EV = 0 from hV6.out.trans (by rw [hesen.out, H0sen.out]))
      refine Calls.ret (hsen _ hb08.out) ?_; rintro v w9 ⟨rfl, hb9⟩; rw [hesen.out]; have hX9 := hide (hX8.out.at hb9); have hc29 := hX9.out.b2.cell; have hc59 := hX9.out.b5.cell; have hb09 := hide (hb08.out.trans (hb9.mono hb08.out.size)); clear hb9; go_wp2_with fail
      have Zlef := hide (show setE r.left (ns : Int) = 0 from by rw [hzl.out.1]; rfl)
      refine Calls.ret (hlef _ hb09.out) ?_; rintro v wa ⟨rfl, hba⟩; rw [Zlef.out]; have hXa := hide (hX9.out.at hba); have hc2a := hXa.out.b2.cell; have hc5a := hXa.out.b5.cell; have hb0a := hide (hb09.out.trans (hba.mono hb09.out.size)); clear hba; go_wp2_with fail
      have Zrig := hide (show setE r.right (ns : Int) = 0 from by rw [hzl.out.2.1]; rfl)
      refine Calls.ret (hrig _ hb0a.out) ?_; rintro v wb ⟨rfl, hbb⟩; rw [Zrig.out]; have hXb := hide (hXa.out.at hbb); have hc2b := hXb.out.b2.cell; have hc5b := hXb.out.b5.cell; have hb0b := hide (hb0a.out.trans (hbb.mono hb0a.out.size)); clear hbb; go_wp2_with fail
      have Zpar := hide (show setE r.parent (ns : Int) = 0 from by rw [hzl.out.2.2]; rfl)
      refine Calls.ret (hpar _ hb0b.out) ?_; rintro v wc ⟨rfl, hbc⟩; rw [Zpar.out]; have hXc := hide (hXb.out.at hbc); have hc2c := hXc.out.b2.cell; have hc5c := hXc.out.b5.cell; have hb0c := hide (hb0b.out.trans (hbc.mono hb0b.out.size)); clear hbc; go_wp2_with fail
      go_ret
      exact ⟨congrArg (Value.int .i64) (hV7.out).symm, hb0c.out⟩
     have Ywr : (r.wr != -1) = true := by simp [hzwr]
     have Hwr := hide hzwr
     clear hzwr
     refine Calls.ret (hfas _ hb07.out) ?_; rintro v w8 ⟨rfl, hb8⟩; rw [hefas.out]; have hX8 := hide (hX7.out.at hb8); have hc28 := hX8.out.b2.cell; have hc58 := hX8.out.b5.cell; have hb08 := hide (hb07.out.trans (hb8.mono hb07.out.size)); clear hb8; go_wp2_with fail
     cases hxrd : inC r.rd 0 ((nv : Int) - 1)
     case false =>
      have Fxrd := hide hxrd
      clear hxrd
      have V1 := hide (show valB r.rd (nv : Int) = false from (val_in Hrd.out).trans Fxrd.out)
      refine (within2_any _ _ _ _).mono ?_; rintro e w' ⟨rfl, rfl⟩; rw [Fxrd.out]; go_wp2_with fail
      go_ret
      exact ⟨congrArg (Value.int .i64) (hV5.out.trans (by rw [V1.out]; rfl)).symm, hb08.out⟩
     have Fxrd := hide hxrd
     clear hxrd
     have V1 := hide (show valB r.rd (nv : Int) = true from (val_in Hrd.out).trans Fxrd.out)
     refine (within2_any _ _ _ _).mono ?_; rintro e w' ⟨rfl, rfl⟩; rw [Fxrd.out]; go_wp2_with fail
     cases hxwr : inC r.wr 0 ((nv : Int) - 1)
     case false =>
      have Fxwr := hide hxwr
      clear hxwr
      have V2 := hide (show valB r.wr (nv : Int) = false from (val_in Hwr.out).trans Fxwr.out)
      refine (within2_any _ _ _ _).mono ?_; rintro e w' ⟨rfl, rfl⟩; rw [Fxwr.out]; go_wp2_with fail
      go_ret
      exact ⟨congrArg (Value.int .i64) (hV5.out.trans (by rw [V1.out, V2.out]; rfl)).symm, hb08.out⟩
     have Fxwr := hide hxwr
     clear hxwr
     have V2 := hide (show valB r.wr (nv : Int) = true from (val_in Hwr.out).trans Fxwr.out)
     refine (within2_any _ _ _ _).mono ?_; rintro e w' ⟨rfl, rfl⟩; rw [Fxwr.out]; go_wp2_with fail
     have hV6 := hide (show EV = setE r.send (nm : Int) from hV5.out.trans (by rw [V1.out, V2.out]; rfl))
     obtain ⟨esen, hesen⟩ : ∃ e, Hid (setE r.send (nm : Int) = e) := ⟨_, rfl⟩
     by_cases h0sen : esen = 0
     case neg =>
      have qsen : (esen != 0) = true := by simp [h0sen]
      have H0 := hide h0sen
      clear h0sen
      refine Calls.ret (hsen _ hb08.out) ?_; rintro v w9 ⟨rfl, hb9⟩; rw [hesen.out]; have hX9 := hide (hX8.out.at hb9); have hc29 := hX9.out.b2.cell; have hc59 := hX9.out.b5.cell; have hb09 := hide (hb08.out.trans (hb9.mono hb08.out.size)); clear hb9; go_wp2_with fail
      go_ret
      exact ⟨congrArg (Value.int .i64) (hV6.out.trans (by rw [hesen.out])).symm, hb09.out⟩
     have qsen : (esen != 0) = false := by simp [h0sen]
     have H0sen := hide h0sen
     clear h0sen
     have hV7 := hide (show EV = 0 from hV6.out.trans (by rw [hesen.out, H0sen.out]))
     refine Calls.ret (hsen _ hb08.out) ?_; rintro v w9 ⟨rfl, hb9⟩; rw [hesen.out]; have hX9 := hide (hX8.out.at hb9); have hc29 := hX9.out.b2.cell; have hc59 := hX9.out.b5.cell; have hb09 := hide (hb08.out.trans (hb9.mono hb08.out.size)); clear hb9; go_wp2_with fail
     have Zlef := hide (show setE r.left (ns : Int) = 0 from by rw [hzl.out.1]; rfl)
     refine Calls.ret (hlef _ hb09.out) ?_; rintro v wa ⟨rfl, hba⟩; rw [Zlef.out]; have hXa := hide (hX9.out.at hba); have hc2a := hXa.out.b2.cell; have hc5a := hXa.out.b5.cell; have hb0a := hide (hb09.out.trans (hba.mono hb09.out.size)); clear hba; go_wp2_with fail
     have Zrig := hide (show setE r.right (ns : Int) = 0 from by rw [hzl.out.2.1]; rfl)
     refine Calls.ret (hrig _ hb0a.out) ?_; rintro v wb ⟨rfl, hbb⟩; rw [Zrig.out]; have hXb := hide (hXa.out.at hbb); have hc2b := hXb.out.b2.cell; have hc5b := hXb.out.b5.cell; have hb0b := hide (hb0a.out.trans (hbb.mono hb0a.out.size)); clear hbb; go_wp2_with fail
     have Zpar := hide (show setE r.parent (ns : Int) = 0 from by rw [hzl.out.2.2]; rfl)
     refine Calls.ret (hpar _ hb0b.out) ?_; rintro v wc ⟨rfl, hbc⟩; rw [Zpar.out]; have hXc := hide (hXb.out.at hbc); have hc2c := hXc.out.b2.cell; have hc5c := hXc.out.b5.cell; have hb0c := hide (hb0b.out.trans (hbc.mono hb0b.out.size)); clear hbc; go_wp2_with fail
     go_ret
     exact ⟨congrArg (Value.int .i64) (hV7.out).symm, hb0c.out⟩
end Go.Proofs.YtbjdgepfhhafjaaDoor
namespace Go.Proofs.YtbjdgepfhhafjaaDoor
open Go.RowKit
attribute [-go_sem] loadCellsFrom storeCells
theorem rr_k3 {w : World} {cs : List Value} {p : ProtD} {r : RuleD} {i : Nat} (h : ProtIs w w.heap.size cs p) (hr : p.rules[i]? = some r) (hs : r.Small) (hnm : r.name.size ≤ 500) (hsm : p.Small) (hT : SpOK w) (htk : Hid (((p.rules.take i).any fun x => decide (x.name = r.name)) = false)) (hok : Hid (nameOK r.name = true)) (hki : Hid (inC r.kind 1 5 = true)) (hcl : (decide (r.kind ≤ 3) != (p.topo == 1)) = false) (hun : Hid (unusedR p.topo r = false)) (hkd : r.kind = 3) :
  Calls Tryd.prog 47 #[.agg cs.toArray, .int .i64 (i : Int)] w (Ret fun v w' => v = .int .i64 (ruleE nameOK p.topo (p.states.length : Int) (p.messages.length : Int) (p.values.length : Int) false r) ∧ Below w.heap.size w w') := by
 obtain ⟨A1, c1, A2, c2, A3, c3, A4, c4, A5, c5, A6, c6, A7, c7, hpsz, hp0, hp1, hp2, hp3, hp4, hp5, hp6, hp7, hp8, hp9, -, -, -, -, -, -, h7, hcap⟩ := h.cells
 have hil := lt_of_get hr
 have hn1 := hsm.states
 have hn2 := hsm.messages
 have hn3 := hsm.values
 have hn7 := hsm.rules
 have hRw := hide h7
 obtain ⟨w1, hw1, hb1, hB1, hk1⟩ := box_blk w cs.toArray 27
 have hb1d := hb1.trans ((drewB w1).mono hb1.size)
 have hB1d : Blk w1.drew w.heap.size 27 cs.toArray := hB1
 obtain ⟨b, off, rc, hA, hbk, hC, hcs, hlc⟩ := rows_rule (h7.keep (w' := w1.drew) (B' := w.heap.size) (R' := RuleIs w1.drew w.heap.size) (fun _ hp => hb1d.cell hp) (fun _ _ h => h.keep (fun _ hp => hb1d.cell hp) (Nat.le_refl _)) (Nat.le_refl _)) hr
 obtain ⟨w2, hw2, hb2, hB2, hk2⟩ := box_blk w1.drew rc 51
 have hB2' : Blk w2 w1.heap.size 51 rc := hB2
 have hsc0 := store_new w1.drew 51 18 (by kernel_rfl) hC.size hC.one
 rw [hw2] at hsc0
 have hsc : ∀ c : Array Value, c.size = 18 → (storeCells ⟨w1.heap.size, 0, none⟩ rc.toList 0).run Tryd.prog (w1.alloc (.cells c 51)).drew = .ok () w2 := hsc0
 clear hsc0
 have hB12 := hB1d.below hb2
 have hb02 := hide (hb1d.trans (hb2.mono hb1d.size))
 have hX2 := hide (show RuleX w2 w.heap.size w1.heap.size cs.toArray rc p r from ⟨h.keep (fun _ hp => hb02.out.cell hp) hb02.out.size, hC.is.keep (fun _ hp => hb2.cell (by show _ < w1.heap.size; have := hb1.size; omega)) hb02.out.size, hB12, hB2', hT.below hb02.out⟩)
 have hrc := hC.is.cells
 simp only [Array.toArray_toList] at hrc
 obtain ⟨E1, f1, E2, f2, E3, f3, E4, f4, E5, f5, E6, f6, E7, f7, E8, f8, ⟨hrsz, hr0, hr1, hr2, hr3, hr4, hr5, hr6, hr7, hr8, hr9, hr10, hr11, hr12, hr13, hr14, hr15, hr16, hr17⟩, ⟨hS1, hS2, hS3, hS4, hS5, hS6, hS7, hS8⟩⟩ := hrc
 have hbk2 : ∀ {D : Type} {sz : Nat} {enc : D → Nat → Value} {A : Option Addr} {ds : List D}, Sl w1.drew w.heap.size sz enc A ds → Sl w w.heap.size sz enc A ds := fun h => h.keep (fun _ hp => (hb1d.cell hp).symm) (Nat.le_refl _)
 have hT1 := hide (hbk2 hS1)
 have hT2 := hide (hbk2 hS2)
 have hT3 := hide (hbk2 hS3)
 have hT4 := hide (hbk2 hS4)
 have hT5 := hide (hbk2 hS5)
 have hT6 := hide (hbk2 hS6)
 have hT7 := hide (hbk2 hS7)
 have hT8 := hide (hbk2 hS8)
 have hc1 := hB1d.cell
 have hB1dH := hide hB1d
 have hB12H := hide hB12
 generalize hpc : cs.toArray = pc at *
 have hpszH := hide hpsz
 obtain ⟨hs1, hs2, hs3, hs4, hs5, hs6, hs7, hs8⟩ := hs
 have hsH := hide (show r.Small from ⟨hs1, hs2, hs3, hs4, hs5, hs6, hs7, hs8⟩)
 have hrH := hide hr
 have hcapN := hcap
 have hnuH := hide (show i < p.rules.length from hil)
 obtain ⟨ns, hns⟩ : ∃ n, n = p.states.length := ⟨_, rfl⟩
 obtain ⟨nm, hnm'⟩ : ∃ n, n = p.messages.length := ⟨_, rfl⟩
 obtain ⟨nv, hnv⟩ : ∃ n, n = p.values.length := ⟨_, rfl⟩
 have hLH := hide (show ns = p.states.length ∧ nm = p.messages.length ∧ nv = p.values.length from ⟨hns, hnm', hnv⟩)
 rw [← hns] at hp2 hn1 ⊢
 rw [← hnm'] at hp3 hn2 ⊢
 rw [← hnv] at hp4 hn3 ⊢
 obtain ⟨EV, hEV⟩ : ∃ e, Hid (ruleE nameOK p.topo (ns : Int) (nm : Int) (nv : Int) false r = e) := ⟨_, rfl⟩
 rw [hEV.out]
 subst hA
 clear hcs hC hk1 hk2 hb1 hb2 hb1d hB1 hB2 hB2' hB1d hB12 hpsz hpc hr h h7 hns hnm' hnv hT hsm hS1 hS2 hS3 hS4 hS5 hS6 hS7 hS8 hbk2
 have hKOK := hide (show KOK nameOK p.topo r from ⟨hok.out, hki.out, hcl, hun.out⟩)
 have hUn := hide (un_of hun.out)
 have hV0 := hide (hEV.out.symm.trans (rk_3 hKOK.out hkd))
 have q1 : (r.kind == 1) = false := by rw [hkd]; rfl
 have q2 : (r.kind == 2) = false := by rw [hkd]; rfl
 have q3 : (r.kind == 3) = true := by rw [hkd]; rfl
 have q4 : (r.kind == 4) = false := by rw [hkd]; rfl
 have q5 : (r.kind == 5) = false := by rw [hkd]; rfl
 have hkdH := hide hkd
 clear hkd
 have hz2 := hide (show r.guards = [] ∧ r.ex = [] ∧ r.fa = [] ∧ r.send = [] from hUn.out.g (by rw [hkdH.out]; decide))
 have hzl := hide (show r.left = [] ∧ r.right = [] ∧ r.parent = [] from hUn.out.l (by rw [hkdH.out]; decide))
 have hexs : ∀ wx, Below w.heap.size w wx → Calls Tryd.prog 30 #[.slice E3 r.ex.length f3, .int .i64 (ns : Int)] wx (Ret fun v w' => v = .int .i64 (setE r.ex (ns : Int)) ∧ Below wx.heap.size wx w') := fun wx hx => refset_any (by omega) (hT3.out.keep (fun _ hp => hx.cell hp) hx.size)
 have hfas : ∀ wx, Below w.heap.size w wx → Calls Tryd.prog 30 #[.slice E4 r.fa.length f4, .int .i64 (ns : Int)] wx (Ret fun v w' => v = .int .i64 (setE r.fa (ns : Int)) ∧ Below wx.heap.size wx w') := fun wx hx => refset_any (by omega) (hT4.out.keep (fun _ hp => hx.cell hp) hx.size)
 have hsen : ∀ wx, Below w.heap.size w wx → Calls Tryd.prog 30 #[.slice E5 r.send.length f5, .int .i64 (nm : Int)] wx (Ret fun v w' => v = .int .i64 (setE r.send (nm : Int)) ∧ Below wx.heap.size wx w') := fun wx hx => refset_any (by omega) (hT5.out.keep (fun _ hp => hx.cell hp) hx.size)
 have hlef : ∀ wx, Below w.heap.size w wx → Calls Tryd.prog 30 #[.slice E6 r.left.length f6, .int .i64 (ns : Int)] wx (Ret fun v w' => v = .int .i64 (setE r.left (ns : Int)) ∧ Below wx.heap.size wx w') := fun wx hx => refset_any (by omega) (hT6.out.keep (fun _ hp => hx.cell hp) hx.size)
 have hrig : ∀ wx, Below w.heap.size w wx → Calls Tryd.prog 30 #[.slice E7 r.right.length f7, .int .i64 (ns : Int)] wx (Ret fun v w' => v = .int .i64 (setE r.right (ns : Int)) ∧ Below wx.heap.size wx w') := fun wx hx => refset_any (by omega) (hT7.out.keep (fun _ hp => hx.cell hp) hx.size)
 have hpar : ∀ wx, Below w.heap.size w wx → Calls Tryd.prog 30 #[.slice E8 r.parent.length f8, .int .i64 (ns : Int)] wx (Ret fun v w' => v = .int .i64 (setE r.parent (ns : Int)) ∧ Below wx.heap.size wx w') := fun wx hx => refset_any (by omega) (hT8.out.keep (fun _ hp => hx.cell hp) hx.size)
 have hcl2 : decide (r.kind ≤ 3) = (p.topo == 1) := by cases h1 : decide (r.kind ≤ 3) <;> cases h2 : (p.topo == 1) <;> simp [h1, h2] at hcl ⊢
 have hclH := hide hcl
 clear hcl
 go_enter Tryd.func47, Tryd.ntmps47
 go_wp2_with fail
 refine Reg.cI [0, 1, 0, 7, 15, 0, 32, 96, 0, 287, 1023] [0, 1, 2, 3, 4, 5, 6, 7, 8, 9, 10] ?_
 refine Reg.wI [0, 1, 2, 3, 4, 5, 6, 7, 8] [9, 10] rfl fun Qf hQf => ?_
 go_wp2_with fail
 first | refine hQf _ _ ⟨rfl, ?_⟩ | refine ⟨rfl, ?_⟩ | refine hQf _ _ ⟨by simp [Reg.fineT, Reg.intOp, Region.wanted, yielded, Reg.intFine, Reg.isInt, Act.eval], ?_⟩
 try clear hQf
 refine Reg.aI 9 [10] [6] rfl fun Qf hQf => ?_
 simp only [gT, gS, gZ]
 go_wp2_with fail
 first | refine hQf _ _ ⟨?_, ?_⟩ | refine ⟨?_, ?_⟩
 ·intro z hz q hq
  simp only [List.mem_cons, List.not_mem_nil, or_false] at hz
  subst hz
  injection hq with hq
  subst hq
  exact Reg.same_load1 rfl rfl (((hB1dH.out.kept ((Kept.refl _ (fun _ => False)).alloc _) id).cell 2).trans hp2) ((hB12H.out.cell 2).trans hp2) Tryd.underlying22 rfl
 try clear hQf
 refine Reg.wI [10] [] rfl fun Qf hQf => ?_
 go_wp2_with fail
 first | refine hQf _ _ ⟨rfl, ?_⟩ | refine ⟨rfl, ?_⟩ | refine hQf _ _ ⟨by simp [Reg.fineT, Reg.intOp, Region.wanted, yielded, Reg.intFine, Reg.isInt, Act.eval], ?_⟩
 try clear hQf
 first | refine Reg.restI_end ?_ | skip
 have hrszH := hide hrsz
 clear hrsz hsc hlc
 have hc22 := hX2.out.b2.cell
 have hc52 := hX2.out.b5.cell
 go_wp2_with fail
 go_wp2_with (go_at_call 29; refine Calls.ret (refValidName_any r.name _ (by omega)) ?_; rintro v w3 ⟨rfl, hb3⟩; rw [hok.out]; have hX3 := hide (hX2.out.at hb3); have hc23 := hX3.out.b2.cell; have hc53 := hX3.out.b5.cell; have hb03 := hide (hb02.out.trans (hb3.mono hb02.out.size)); clear hb3)
 go_loopw [7] (fun ii wr => ∃ (k : Nat), ii = .int .i64 (k : Int) ∧ k ≤ i ∧ Hid (Below w3.heap.size w3 wr) ∧ Hid ((p.rules.take k).all (fun x => !decide (x.name = r.name)) = true)) (fun ii _ => i - (intOf ii).toNat)
 case atStart => exact ⟨0, rfl, Nat.zero_le _, Below.refl _ _, by show _ = _; simp⟩
 case round =>
  obtain ⟨k, rfl, hk, hbr, hE⟩ := hrel
  have hX4 := hide (hX3.out.at hbr.out)
  have hc24 := hX4.out.b2.cell
  have hc54 := hX4.out.b5.cell
  have hb04 := hide (hb03.out.trans (hbr.out.mono hb03.out.size))
  by_cases hlt : k < i
  ·obtain ⟨x, hx⟩ : ∃ x, p.rules[k]? = some x := ⟨_, List.getElem?_eq_getElem (by have := hnuH.out; omega)⟩
   obtain ⟨b', off', xc, hA', hbk', hCx, hcsx, -⟩ := rows_rule (hRw.out.keep (w' := wr) (B' := w.heap.size) (R' := RuleIs wr w.heap.size) (fun _ hp => hb04.out.cell hp) (fun _ _ h => h.keep (fun _ hp => hb04.out.cell hp) (Nat.le_refl _)) (Nat.le_refl _)) hx
   have e1 := Option.some.inj hA'
   injection e1 with e1 e2 _
   subst e1 e2
   have hx0 := hCx.is.cells
   simp only [Array.toArray_toList] at hx0
   obtain ⟨-, -, -, -, -, -, -, -, -, -, -, -, -, -, -, -, ⟨-, hx0, -⟩, -⟩ := hx0
   have hxn := hcsx 0 _ hx0
   simp only [Nat.add_zero] at hxn
   have hxH := hide hx
   clear hcsx hCx hx hx0 hA'
   by_cases hEq : x.name = r.name
   ·exfalso
    have h1 := htk.out
    rw [List.any_eq_false] at h1
    refine h1 x (List.mem_of_getElem? (i := k) ?_) (decide_eq_true hEq)
    rw [List.getElem?_take, if_pos hlt]
    exact hxH.out
   ·have hq : (x.name.toList == r.name.toList) = false := by rw [bytes_eq]; exact decide_eq_false hEq
    have hnx := hide (all_take_more (p := fun x : RuleD => !decide (x.name = r.name)) hxH.out hE.out (by simp [hEq]))
    have hbd := hide (hbr.out.trans ((drewB wr).mono hbr.out.size))
    clear hEq
    go_wp2_with fail
    refine Reg.cP [0, 1, 0, 7, 15, 31, 0, 64, 255] ?_
    go_wp2_with fail
    exact ⟨⟨k + 1, by go_num, by omega, hbd.out, hnx.out⟩, by simp [intOf]; omega⟩
  ·clear hE
   have hl24 := blk_load hX4.out.b2 hpszH.out
   have hl54 := blk_load hX4.out.b5 hrszH.out
   go_wp2_with (first
    | (go_at_call 32; refine (within2_any _ _ _ _).mono ?_; rintro e w' ⟨rfl, rfl⟩; rw [hki.out])
    | (go_at_call 71; refine Calls.ret (unused_any hX4.out.pr hX4.out.ru hsH.out) ?_; rintro v w5 ⟨rfl, hb5⟩; rw [hun.out]; have hX5 := hide (hX4.out.at hb5); have hc25 := hX5.out.b2.cell; have hc55 := hX5.out.b5.cell; have hb05 := hide (hb04.out.trans (hb5.mono hb04.out.size)); clear hb5))
   obtain ⟨ng, hng⟩ : ∃ n, n = r.guards.length := ⟨_, rfl⟩
   have hng0 := hide (show ng = 0 from by rw [hng, hz2.out.1]; rfl)
   rw [← hng] at hr7
   have hng2 : ¬ (2 : Int) < (ng : Int) := by have := hng0.out; omega
   have hng3 : ng ≤ 60 := by have := hng0.out; omega
   clear hng
   obtain ⟨nq, hnq⟩ : ∃ n, n = r.resp.length := ⟨_, rfl⟩
   rw [← hnq] at hr6 hs1
   have hnqH := hide hnq
   clear hnq
   cases hfr : inC r.fr 0 ((ns : Int) - 1)
   case false =>
    have Ffr := hide hfr
    clear hfr
    refine (within2_any _ _ _ _).mono ?_; rintro e w' ⟨rfl, rfl⟩; rw [Ffr.out]; go_wp2_with fail
    go_ret
    exact ⟨congrArg (Value.int .i64) (hV0.out.trans (by rw [show inN r.fr (ns : Int) = false from Ffr.out]; rfl)).symm, hb05.out⟩
   have Ffr := hide hfr
   clear hfr
   refine (within2_any _ _ _ _).mono ?_; rintro e w' ⟨rfl, rfl⟩; rw [Ffr.out]; go_wp2_with fail
   cases hto : inC r.to 0 ((ns : Int) - 1)
   case false =>
    have Fto := hide hto
    clear hto
    refine (within2_any _ _ _ _).mono ?_; rintro e w' ⟨rfl, rfl⟩; rw [Fto.out]; go_wp2_with fail
    go_ret
    exact ⟨congrArg (Value.int .i64) (hV0.out.trans (by rw [show inN r.fr (ns : Int) = true from Ffr.out, show inN r.to (ns : Int) = false from Fto.out]; rfl)).symm, hb05.out⟩
   have Fto := hide hto
   clear hto
   by_cases hlen : nq = ns
   case neg =>
    have Q0 : ((nq : Int) != (ns : Int)) = true := by
     have : ((nq : Int) == (ns : Int)) = false := by
      simp
      omega
     simp [bne, this]
    have HL := hide hlen
    clear hlen
    refine (within2_any _ _ _ _).mono ?_; rintro e w' ⟨rfl, rfl⟩; rw [Fto.out]; go_wp2_with fail
    go_ret
    exact ⟨congrArg (Value.int .i64) (hV0.out.trans (by rw [show inN r.fr (ns : Int) = true from Ffr.out, show inN r.to (ns : Int) = true from Fto.out, show respE (ns : Int) r.resp = 1 from if_pos (by have h1 := HL.out; have h2 := hnqH.out; omega)]; rfl)).symm, hb05.out⟩
   have Q0 : ((nq : Int) != (ns : Int)) = false := by simp [hlen]
   have HL := hide hlen
   clear hlen
   refine (within2_any _ _ _ _).mono ?_; rintro e w' ⟨rfl, rfl⟩; rw [Fto.out]; go_wp2_with fail
   have hV1 := hide (show EV = orE (respE (ns : Int) r.resp) (whenE (!valB r.rd (nv : Int) || !valB r.wr (nv : Int)) 5) from hV0.out.trans (by rw [show inN r.fr (ns : Int) = true from Ffr.out, show inN r.to (ns : Int) = true from Fto.out]; rfl))
   have hRE := hide (show respE (ns : Int) r.resp = allE (fun x => whenE (!inE x (ns : Int)) 5) r.resp from if_neg (by have h1 := HL.out; have h2 := hnqH.out; omega))
   go_loopw [9] (fun ii wr => ∃ (k : Nat), ii = .int .i64 (k : Int) ∧ k ≤ ns ∧ w5 = wr ∧ Hid (allE (fun x => whenE (!inE x (ns : Int)) 5) (r.resp.take k) = 0)) (fun ii _ => ns - (intOf ii).toNat)
   case atStart => exact ⟨0, rfl, Nat.zero_le _, (by first | rfl | trivial), by show _ = _; rfl⟩
   case round =>
    obtain ⟨k3, rfl, hk3, rfl, hE3⟩ := hrel
    by_cases hlt3 : k3 < ns
    ·obtain ⟨b3, off3, x, hA3, hbk3, hx3, hcx3⟩ := (hT1.out.keep (w' := w5) (B' := w.heap.size) (fun _ hp => hb05.out.cell hp) (Nat.le_refl _)).at (k := k3) (by have h1 := HL.out; have h2 := hnqH.out; omega)
     have d3 := hcx3 0 (by omega)
     simp only [Nat.add_zero, Nat.mul_one, encI] at d3
     have hx3H := hide hx3
     have HL2 : k3 < nq := by have h1 := HL.out; omega
     subst hA3
     clear hcx3 hx3
     go_wp2_with fail
     cases hin : inC x 0 ((ns : Int) - 1)
     ·have Fin := hide hin
      clear hin
      have hst := hide (show respE (ns : Int) r.resp = 5 from by
       have h1 : whenE (!inE x (ns : Int)) 5 = 5 := by rw [inE_inC, Fin.out]; rfl
       rw [hRE.out, allE_stop (fun x => whenE (!inE x (ns : Int)) 5) hx3H.out hE3.out (by rw [h1]; decide), h1])
      refine (within2_any _ _ _ _).mono ?_; rintro e w' ⟨rfl, rfl⟩; rw [Fin.out]; go_wp2_with fail
      go_ret
      exact ⟨congrArg (Value.int .i64) (hV1.out.trans (by rw [hst.out]; rfl)).symm, hb05.out⟩
     ·have Fin := hide hin
      clear hin
      have hnx := hide (show allE (fun x => whenE (!inE x (ns : Int)) 5) (r.resp.take (k3 + 1)) = 0 from by
       rw [allE_take (fun x => whenE (!inE x (ns : Int)) 5) hx3H.out hE3.out, inE_inC, Fin.out]
       rfl)
      refine (within2_any _ _ _ _).mono ?_; rintro e w' ⟨rfl, rfl⟩; rw [Fin.out]; go_wp2_with fail
      exact ⟨⟨k3 + 1, by go_num, by omega, (by first | rfl | trivial), hnx.out⟩, by simp [intOf]; omega⟩
    ·have hV2 := hide (show EV = whenE (!valB r.rd (nv : Int) || !valB r.wr (nv : Int)) 5 from hV1.out.trans (by
      have h1 := hE3.out
      rw [List.take_of_length_le (by have h1 := HL.out; have h2 := hnqH.out; omega)] at h1
      rw [hRE.out, h1]
      rfl))
     clear hE3
     go_wp2_with fail
     go_loopw [10] (fun ii wr => ∃ (k : Nat), ii = .int .i64 (k : Int) ∧ k ≤ ng ∧ Hid (Below w5.heap.size w5 wr)) (fun ii _ => ng - (intOf ii).toNat)
     case atStart => exact ⟨0, rfl, Nat.zero_le _, Below.refl _ _⟩
     case round =>
      obtain ⟨k, rfl, hk, hbr2⟩ := hrel
      have hX6 := hide (hX5.out.at hbr2.out)
      have hc26 := hX6.out.b2.cell
      have hc56 := hX6.out.b5.cell
      have hb06 := hide (hb05.out.trans (hbr2.out.mono hb05.out.size))
      by_cases hlt2 : k < ng
      ·exfalso
       have := hng0.out
       omega
      ·go_wp2_with fail
       have Zexs := hide (show setE r.ex (ns : Int) = 0 from by rw [hz2.out.2.1]; rfl)
       refine Calls.ret (hexs _ hb06.out) ?_; rintro v w7 ⟨rfl, hb7⟩; rw [Zexs.out]; have hX7 := hide (hX6.out.at hb7); have hc27 := hX7.out.b2.cell; have hc57 := hX7.out.b5.cell; have hb07 := hide (hb06.out.trans (hb7.mono hb06.out.size)); clear hb7; go_wp2_with fail
       by_cases hzrd : r.rd = -1
       case pos =>
        have Yrd : (r.rd != -1) = false := by simp [hzrd]
        have Hrd := hide hzrd
        clear hzrd
        have V1 := hide (show valB r.rd (nv : Int) = true from by rw [Hrd.out]; exact val_m1 (by omega))
        by_cases hzwr : r.wr = -1
        case pos =>
         have Ywr : (r.wr != -1) = false := by simp [hzwr]
         have Hwr := hide hzwr
         clear hzwr
         have V2 := hide (show valB r.wr (nv : Int) = true from by rw [Hwr.out]; exact val_m1 (by omega))
         have Zfas := hide (show setE r.fa (ns : Int) = 0 from by rw [hz2.out.2.2.1]; rfl)
         refine Calls.ret (hfas _ hb07.out) ?_; rintro v w8 ⟨rfl, hb8⟩; rw [Zfas.out]; have hX8 := hide (hX7.out.at hb8); have hc28 := hX8.out.b2.cell; have hc58 := hX8.out.b5.cell; have hb08 := hide (hb07.out.trans (hb8.mono hb07.out.size)); clear hb8; go_wp2_with fail
         have hV3 := hide (show EV = 0 from hV2.out.trans (by rw [V1.out, V2.out]; rfl))
         have Zsen := hide (show setE r.send (nm : Int) = 0 from by rw [hz2.out.2.2.2]; rfl)
         refine Calls.ret (hsen _ hb08.out) ?_; rintro v w9 ⟨rfl, hb9⟩; rw [Zsen.out]; have hX9 := hide (hX8.out.at hb9); have hc29 := hX9.out.b2.cell; have hc59 := hX9.out.b5.cell; have hb09 := hide (hb08.out.trans (hb9.mono hb08.out.size)); clear hb9; go_wp2_with fail
         have Zlef := hide (show setE r.left (ns : Int) = 0 from by rw [hzl.out.1]; rfl)
         refine Calls.ret (hlef _ hb09.out) ?_; rintro v wa ⟨rfl, hba⟩; rw [Zlef.out]; have hXa := hide (hX9.out.at hba); have hc2a := hXa.out.b2.cell; have hc5a := hXa.out.b5.cell; have hb0a := hide (hb09.out.trans (hba.mono hb09.out.size)); clear hba; go_wp2_with fail
         have Zrig := hide (show setE r.right (ns : Int) = 0 from by rw [hzl.out.2.1]; rfl)
         refine Calls.ret (hrig _ hb0a.out) ?_; rintro v wb ⟨rfl, hbb⟩; rw [Zrig.out]; have hXb := hide (hXa.out.at hbb); have hc2b := hXb.out.b2.cell; have hc5b := hXb.out.b5.cell; have hb0b := hide (hb0a.out.trans (hbb.mono hb0a.out.size)); clear hbb; go_wp2_with fail
         have Zpar := hide (show setE r.parent (ns : Int) = 0 from by rw [hzl.out.2.2]; rfl)
         refine Calls.ret (hpar _ hb0b.out) ?_; rintro v wc ⟨rfl, hbc⟩; rw [Zpar.out]; have hXc := hide (hXb.out.at hbc); have hc2c := hXc.out.b2.cell; have hc5c := hXc.out.b5.cell; have hb0c := hide (hb0b.out.trans (hbc.mono hb0b.out.size)); clear hbc; go_wp2_with fail
         go_ret
         exact ⟨congrArg (Value.int .i64) (hV3.out).symm, hb0c.out⟩
        have Ywr : (r.wr != -1) = true := by simp [hzwr]
        have Hwr := hide hzwr
        clear hzwr
        have Zfas := hide (show setE r.fa (ns : Int) = 0 from by rw [hz2.out.2.2.1]; rfl)
        refine Calls.ret (hfas _ hb07.out) ?_; rintro v w8 ⟨rfl, hb8⟩; rw [Zfas.out]; have hX8 := hide (hX7.out.at hb8); have hc28 := hX8.out.b2.cell; have hc58 := hX8.out.b5.cell; have hb08 := hide (hb07.out.trans (hb8.mono hb07.out.size)); clear hb8; go_wp2_with fail
        cases hxwr : inC r.wr 0 ((nv : Int) - 1)
        case false =>
         have Fxwr := hide hxwr
         clear hxwr
         have V2 := hide (show valB r.wr (nv : Int) = false from (val_in Hwr.out).trans Fxwr.out)
         refine (within2_any _ _ _ _).mono ?_; rintro e w' ⟨rfl, rfl⟩; rw [Fxwr.out]; go_wp2_with fail
         go_ret
         exact ⟨congrArg (Value.int .i64) (hV2.out.trans (by rw [V1.out, V2.out]; rfl)).symm, hb08.out⟩
        have Fxwr := hide hxwr
        clear hxwr
        have V2 := hide (show valB r.wr (nv : Int) = true from (val_in Hwr.out).trans Fxwr.out)
        refine (within2_any _ _ _ _).mono ?_; rintro e w' ⟨rfl, rfl⟩; rw [Fxwr.out]; go_wp2_with fail
        have hV3 := hide (show EV = 0 from hV2.out.trans (by rw [V1.out, V2.out]; rfl))
        have Zsen := hide (show setE r.send (nm : Int) = 0 from by rw [hz2.out.2.2.2]; rfl)
        refine Calls.ret (hsen _ hb08.out) ?_; rintro v w9 ⟨rfl, hb9⟩; rw [Zsen.out]; have hX9 := hide (hX8.out.at hb9); have hc29 := hX9.out.b2.cell; have hc59 := hX9.out.b5.cell; have hb09 := hide (hb08.out.trans (hb9.mono hb08.out.size)); clear hb9; go_wp2_with fail
        have Zlef := hide (show setE r.left (ns : Int) = 0 from by rw [hzl.out.1]; rfl)
        refine Calls.ret (hlef _ hb09.out) ?_; rintro v wa ⟨rfl, hba⟩; rw [Zlef.out]; have hXa := hide (hX9.out.at hba); have hc2a := hXa.out.b2.cell; have hc5a := hXa.out.b5.cell; have hb0a := hide (hb09.out.trans (hba.mono hb09.out.size)); clear hba; go_wp2_with fail
        have Zrig := hide (show setE r.right (ns : Int) = 0 from by rw [hzl.out.2.1]; rfl)
        refine Calls.ret (hrig _ hb0a.out) ?_; rintro v wb ⟨rfl, hbb⟩; rw [Zrig.out]; have hXb := hide (hXa.out.at hbb); have hc2b := hXb.out.b2.cell; have hc5b := hXb.out.b5.cell; have hb0b := hide (hb0a.out.trans (hbb.mono hb0a.out.size)); clear hbb; go_wp2_with fail
        have Zpar := hide (show setE r.parent (ns : Int) = 0 from by rw [hzl.out.2.2]; rfl)
        refine Calls.ret (hpar _ hb0b.out) ?_; rintro v wc ⟨rfl, hbc⟩; rw [Zpar.out]; have hXc := hide (hXb.out.at hbc); have hc2c := hXc.out.b2.cell; have hc5c := hXc.out.b5.cell; have hb0c := hide (hb0b.out.trans (hbc.mono hb0b.out.size)); clear hbc; go_wp2_with fail
        go_ret
        exact ⟨congrArg (Value.int .i64) (hV3.out).symm, hb0c.out⟩
       have Yrd : (r.rd != -1) = true := by simp [hzrd]
       have Hrd := hide hzrd
       clear hzrd
       by_cases hzwr : r.wr = -1
       case pos =>
        have Ywr : (r.wr != -1) = false := by simp [hzwr]
        have Hwr := hide hzwr
        clear hzwr
        have V2 := hide (show valB r.wr (nv : Int) = true from by rw [Hwr.out]; exact val_m1 (by omega))
        have Zfas := hide (show setE r.fa (ns : Int) = 0 from by rw [hz2.out.2.2.1]; rfl)
        refine Calls.ret (hfas _ hb07.out) ?_; rintro v w8 ⟨rfl, hb8⟩; rw [Zfas.out]; have hX8 := hide (hX7.out.at hb8); have hc28 := hX8.out.b2.cell; have hc58 := hX8.out.b5.cell; have hb08 := hide (hb07.out.trans (hb8.mono hb07.out.size)); clear hb8; go_wp2_with fail
        cases hxrd : inC r.rd 0 ((nv : Int) - 1)
        case false =>
         have Fxrd := hide hxrd
         clear hxrd
         have V1 := hide (show valB r.rd (nv : Int) = false from (val_in Hrd.out).trans Fxrd.out)
         refine (within2_any _ _ _ _).mono ?_; rintro e w' ⟨rfl, rfl⟩; rw [Fxrd.out]; go_wp2_with fail
         go_ret
         exact ⟨congrArg (Value.int .i64) (hV2.out.trans (by rw [V1.out]; rfl)).symm, hb08.out⟩
        have Fxrd := hide hxrd
        clear hxrd
        have V1 := hide (show valB r.rd (nv : Int) = true from (val_in Hrd.out).trans Fxrd.out)
        refine (within2_any _ _ _ _).mono ?_; rintro e w' ⟨rfl, rfl⟩; rw [Fxrd.out]; go_wp2_with fail
        have hV3 := hide (show EV = 0 from hV2.out.trans (by rw [V1.out, V2.out]; rfl))
        have Zsen := hide (show setE r.send (nm : Int) = 0 from by rw [hz2.out.2.2.2]; rfl)
        refine Calls.ret (hsen _ hb08.out) ?_; rintro v w9 ⟨rfl, hb9⟩; rw [Zsen.out]; have hX9 := hide (hX8.out.at hb9); have hc29 := hX9.out.b2.cell; have hc59 := hX9.out.b5.cell; have hb09 := hide (hb08.out.trans (hb9.mono hb08.out.size)); clear hb9; go_wp2_with fail
        have Zlef := hide (show setE r.left (ns : Int) = 0 from by rw [hzl.out.1]; rfl)
        refine Calls.ret (hlef _ hb09.out) ?_; rintro v wa ⟨rfl, hba⟩; rw [Zlef.out]; have hXa := hide (hX9.out.at hba); have hc2a := hXa.out.b2.cell; have hc5a := hXa.out.b5.cell; have hb0a := hide (hb09.out.trans (hba.mono hb09.out.size)); clear hba; go_wp2_with fail
        have Zrig := hide (show setE r.right (ns : Int) = 0 from by rw [hzl.out.2.1]; rfl)
        refine Calls.ret (hrig _ hb0a.out) ?_; rintro v wb ⟨rfl, hbb⟩; rw [Zrig.out]; have hXb := hide (hXa.out.at hbb); have hc2b := hXb.out.b2.cell; have hc5b := hXb.out.b5.cell; have hb0b := hide (hb0a.out.trans (hbb.mono hb0a.out.size)); clear hbb; go_wp2_with fail
        have Zpar := hide (show setE r.parent (ns : Int) = 0 from by rw [hzl.out.2.2]; rfl)
        refine Calls.ret (hpar _ hb0b.out) ?_; rintro v wc ⟨rfl, hbc⟩; rw [Zpar.out]; have hXc := hide (hXb.out.at hbc); have hc2c := hXc.out.b2.cell; have hc5c := hXc.out.b5.cell; have hb0c := hide (hb0b.out.trans (hbc.mono hb0b.out.size)); clear hbc; go_wp2_with fail
        go_ret
        exact ⟨congrArg (Value.int .i64) (hV3.out).symm, hb0c.out⟩
       have Ywr : (r.wr != -1) = true := by simp [hzwr]
       have Hwr := hide hzwr
       clear hzwr
       have Zfas := hide (show setE r.fa (ns : Int) = 0 from by rw [hz2.out.2.2.1]; rfl)
       refine Calls.ret (hfas _ hb07.out) ?_; rintro v w8 ⟨rfl, hb8⟩; rw [Zfas.out]; have hX8 := hide (hX7.out.at hb8); have hc28 := hX8.out.b2.cell; have hc58 := hX8.out.b5.cell; have hb08 := hide (hb07.out.trans (hb8.mono hb07.out.size)); clear hb8; go_wp2_with fail
       cases hxrd : inC r.rd 0 ((nv : Int) - 1)
       case false =>
        have Fxrd := hide hxrd
        clear hxrd
        have V1 := hide (show valB r.rd (nv : Int) = false from (val_in Hrd.out).trans Fxrd.out)
        refine (within2_any _ _ _ _).mono ?_; rintro e w' ⟨rfl, rfl⟩; rw [Fxrd.out]; go_wp2_with fail
        go_ret
        exact ⟨congrArg (Value.int .i64) (hV2.out.trans (by rw [V1.out]; rfl)).symm, hb08.out⟩
       have Fxrd := hide hxrd
       clear hxrd
       have V1 := hide (show valB r.rd (nv : Int) = true from (val_in Hrd.out).trans Fxrd.out)
       refine (within2_any _ _ _ _).mono ?_; rintro e w' ⟨rfl, rfl⟩; rw [Fxrd.out]; go_wp2_with fail
       cases hxwr : inC r.wr 0 ((nv : Int) - 1)
       case false =>
        have Fxwr := hide hxwr
        clear hxwr
        have V2 := hide (show valB r.wr (nv : Int) = false from (val_in Hwr.out).trans Fxwr.out)
        refine (within2_any _ _ _ _).mono ?_; rintro e w' ⟨rfl, rfl⟩; rw [Fxwr.out]; go_wp2_with fail
        go_ret
        exact ⟨congrArg (Value.int .i64) (hV2.out.trans (by rw [V1.out, V2.out]; rfl)).symm, hb08.out⟩
       have Fxwr := hide hxwr
       clear hxwr
       have V2 := hide (show valB r.wr (nv : Int) = true from (val_in Hwr.out).trans Fxwr.out)
       refine (within2_any _ _ _ _).mono ?_; rintro e w' ⟨rfl, rfl⟩; rw [Fxwr.out]; go_wp2_with fail
       have hV3 := hide (show EV = 0 from hV2.out.trans (by rw [V1.out, V2.out]; rfl))
       have Zsen := hide (show setE r.send (nm : Int) = 0 from by rw [hz2.out.2.2.2]; rfl)
       refine Calls.ret (hsen _ hb08.out) ?_; rintro v w9 ⟨rfl, hb9⟩; rw [Zsen.out]; have hX9 := hide (hX8.out.at hb9); have hc29 := hX9.out.b2.cell; have hc59 := hX9.out.b5.cell; have hb09 := hide (hb08.out.trans (hb9.mono hb08.out.size)); clear hb9; go_wp2_with fail
       have Zlef := hide (show setE r.left (ns : Int) = 0 from by rw [hzl.out.1]; rfl)
       refine Calls.ret (hlef _ hb09.out) ?_; rintro v wa ⟨rfl, hba⟩; rw [Zlef.out]; have hXa := hide (hX9.out.at hba); have hc2a := hXa.out.b2.cell; have hc5a := hXa.out.b5.cell; have hb0a := hide (hb09.out.trans (hba.mono hb09.out.size)); clear hba; go_wp2_with fail
       have Zrig := hide (show setE r.right (ns : Int) = 0 from by rw [hzl.out.2.1]; rfl)
       refine Calls.ret (hrig _ hb0a.out) ?_; rintro v wb ⟨rfl, hbb⟩; rw [Zrig.out]; have hXb := hide (hXa.out.at hbb); have hc2b := hXb.out.b2.cell; have hc5b := hXb.out.b5.cell; have hb0b := hide (hb0a.out.trans (hbb.mono hb0a.out.size)); clear hbb; go_wp2_with fail
       have Zpar := hide (show setE r.parent (ns : Int) = 0 from by rw [hzl.out.2.2]; rfl)
       refine Calls.ret (hpar _ hb0b.out) ?_; rintro v wc ⟨rfl, hbc⟩; rw [Zpar.out]; have hXc := hide (hXb.out.at hbc); have hc2c := hXc.out.b2.cell; have hc5c := hXc.out.b5.cell; have hb0c := hide (hb0b.out.trans (hbc.mono hb0b.out.size)); clear hbc; go_wp2_with fail
       go_ret
       exact ⟨congrArg (Value.int .i64) (hV3.out).symm, hb0c.out⟩
end Go.Proofs.YtbjdgepfhhafjaaDoor
