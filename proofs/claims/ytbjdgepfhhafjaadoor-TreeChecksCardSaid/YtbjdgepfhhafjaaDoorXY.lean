/-
  Part XY of a proof.
-/
import Derived.ProofKit
import Derived.Deep.Slices
import Derived.Deep.Fields
import Derived.ChangeArms
import Derived.Test.YtbjdgepfhhafjaaDoorXA
import Derived.Test.YtbjdgepfhhafjaaDoorXX
import Derived.Test.YtbjdgepfhhafjaaDoorXW
import Derived.Test.YtbjdgepfhhafjaaDoorXE
set_option maxHeartbeats 16000000
set_option maxRecDepth 100000
set_option linter.unusedVariables false
set_option linter.unusedSimpArgs false
namespace Go.Proofs.YtbjdgepfhhafjaaDoor
open Go.RowKit
attribute [-go_sem] loadCellsFrom storeCells
theorem lawChecks {w : World} {cs ds : List Value} {p : ProtD} {q : PropD} (h : ProtIs w w.heap.size cs p) (h' : PropIs w w.heap.size ds q) (hf : p.Fits) (hg : q.Fits) (hT : SpOK w) :
  Calls Tryd.prog 3 #[.agg cs.toArray, .agg ds.toArray] w (Ret fun v w' => v = .bool true ∧ Below w.heap.size w w') := by
 have hpsz := h.rules_at.1
 obtain ⟨B1, d1, B2, d2, B3, d3, B4, d4, hqsz, -⟩ := h'.cells
 obtain ⟨w1, hw1, hb1, hB1, hk1⟩ := box_blk w cs.toArray 27
 obtain ⟨w2, hw2, hb2, hB2, hk2⟩ := box_blk w1 ds.toArray 30
 have hb02 := hide (hb1.trans (hb2.mono hb1.size))
 have hX2 := hide (show PQX w2 w.heap.size w1.heap.size cs.toArray ds.toArray p q from ⟨h.keep (fun _ hp => hb02.out.cell hp) hb02.out.size, h'.keep (fun _ hp => hb02.out.cell hp) hb02.out.size, hB1.below hb2, hB2, hT.below hb02.out⟩)
 generalize cs.toArray = pc at *
 generalize ds.toArray = qc at *
 have hcall : Hid (Calls Tryd.prog 4 #[.agg pc, .agg qc] w2 (Ret fun v w' => BoolIf v (p.Small ∧ q.Small) ∧ Below w2.heap.size w2 w')) := hide (big_any (cs := pc.toList) (ds := qc.toList) hX2.out.pr hX2.out.qr hf hg)
 have hpszH := hide hpsz
 have hqszH := hide hqsz
 have hl22 := blk_load hX2.out.b2 hpsz
 have hl32 := blk_load hX2.out.b3 hqsz
 clear h h' hb1 hb2 hB1 hB2 hk1 hk2 hf hg hpsz hqsz hT
 go_enter Tryd.func3, Tryd.ntmps3
 go_wp2_with fail
 refine Calls.ret hcall.out ?_
 rintro v w3 ⟨⟨b1, rfl, hb1⟩, hb3⟩
 have hb1H := hide hb1
 have hX3 := hide (hX2.out.at hb3)
 have hb03 := hide (hb02.out.trans (hb3.mono hb02.out.size))
 clear hb1 hb3
 cases b1
 case true =>
  go_wp2_with fail
  refine Calls.ret (known_any _) ?_
  rintro v w4 ⟨rfl, hb4⟩
  have hb04 := hide (hb03.out.trans (hb4.mono hb03.out.size))
  clear hb4
  go_wp2_with fail
  go_ret
  exact ⟨rfl, hb04.out⟩
 have hsm := hide (hb1H.out rfl)
 obtain ⟨ec, hec⟩ : ∃ e, Hid (checkE nameOK p q = e) := ⟨_, rfl⟩
 have hprog : Hid (∀ wx, Hid (PQX wx w.heap.size w1.heap.size pc qc p q) → Calls Tryd.prog 6 #[.agg pc, .agg qc] wx (Ret fun v w' => v = .int .i64 ec ∧ Below wx.heap.size wx w')) := hide (fun wx hx => by
  rw [← hec.out]
  exact check_any (cs := pc.toList) (ds := qc.toList) hx.out.pr hx.out.qr hsm.out.1 hsm.out.2 hx.out.tab)
 have href : Hid (∀ wx, Hid (PQX wx w.heap.size w1.heap.size pc qc p q) → Calls Tryd.prog 7 #[.agg pc, .agg qc] wx (Ret fun v w' => v = .int .i64 ec ∧ Below wx.heap.size wx w')) := hide (fun wx hx => by
  rw [← hec.out]
  exact refCheck_any (cs := pc.toList) (ds := qc.toList) hx.out.pr hx.out.qr hsm.out.1 hsm.out.2 hx.out.tab)
 have hX3d := hide (hX3.out.at (drewB w3))
 have hl23 := blk_load hX3d.out.b2 hpszH.out
 have hl33 := blk_load hX3d.out.b3 hqszH.out
 have hb03d := hide (hb03.out.trans ((drewB w3).mono hb03.out.size))
 have hee : (ec == ec) = true := by simp
 go_wp2_with fail
 refine Reg.cI [0, 0, 3, 0, 0, 31, 63, 127, 255, 511, 1023] [0, 1, 3, 4, 2, 5, 6, 7, 8, 9, 10] ?_
 refine Reg.wI [0, 1, 3, 4] [2, 5, 6, 7, 8, 9, 10] rfl fun Qf hQf => ?_
 go_wp2_with fail
 first | refine hQf _ _ ⟨rfl, ?_⟩ | refine ⟨rfl, ?_⟩ | refine hQf _ _ ⟨by simp [Reg.fineT, Reg.intOp, Region.wanted, yielded, Reg.intFine, Reg.isInt, Act.eval], ?_⟩
 try clear hQf
 refine Reg.aI 2 [5, 6, 7, 8, 9, 10] [3, 4] rfl fun Qf hQf => ?_
 simp only [gT, gS, gZ]
 go_wp2_with (go_at_call 6; refine Calls.ret (hprog.out _ hX3d) ?_; rintro v w4 ⟨rfl, hb4⟩)
 first | refine hQf _ _ ⟨Reg.same_below (hb4) [3, 4] rfl, ?_⟩ | refine ⟨Reg.same_below (hb4) [3, 4] rfl, ?_⟩
 try clear hQf
 have hX4 := hide (hX3d.out.at hb4)
 have hb04 := hide (hb03d.out.trans (hb4.mono hb03d.out.size))
 clear hb4
 refine Reg.aI 5 [6, 7, 8, 9, 10] [] rfl fun Qf hQf => ?_
 simp only [gT, gS, gZ]
 go_wp2_with (go_at_call 7; refine Calls.ret (href.out _ hX4) ?_; rintro v w5 ⟨rfl, hb5⟩)
 first | refine hQf _ _ ⟨Reg.nm, ?_⟩ | refine ⟨Reg.nm, ?_⟩
 try clear hQf
 have hb05 := hide (hb04.out.trans (hb5.mono hb04.out.size))
 clear hb5
 refine Reg.wI [6, 7] [8, 9, 10] rfl fun Qf hQf => ?_
 go_wp2_with fail
 first | refine hQf _ _ ⟨rfl, ?_⟩ | refine ⟨rfl, ?_⟩ | refine hQf _ _ ⟨by simp [Reg.fineT, Reg.intOp, Region.wanted, yielded, Reg.intFine, Reg.isInt, Act.eval], ?_⟩
 try clear hQf
 refine Reg.aI 8 [9, 10] [] rfl fun Qf hQf => ?_
 simp only [gT, gS, gZ]
 go_wp2_with (go_at_call 5; refine Calls.ret (known_any _) ?_; rintro v w6 ⟨rfl, hb6⟩)
 first | refine hQf _ _ ⟨Reg.nm, ?_⟩ | refine ⟨Reg.nm, ?_⟩
 try clear hQf
 have hb06 := hide (hb05.out.trans (hb6.mono hb05.out.size))
 clear hb6
 refine Reg.wI [9, 10] [] rfl fun Qf hQf => ?_
 go_wp2_with fail
 first | refine hQf _ _ ⟨rfl, ?_⟩ | refine ⟨rfl, ?_⟩ | refine hQf _ _ ⟨by simp [Reg.fineT, Reg.intOp, Region.wanted, yielded, Reg.intFine, Reg.isInt, Act.eval], ?_⟩
 try clear hQf
 first | refine Reg.restI_end ?_ | skip
 go_wp2_with fail
 go_ret
 exact ⟨rfl, hb06.out⟩
end Go.Proofs.YtbjdgepfhhafjaaDoor
namespace Go.Proofs.YtbjdgepfhhafjaaDoor
open Go.RowKit Go.ChangeShapes Go.WideShapes Go.Deep
section
variable {H : Type} {enc : TypeId × Value → H} {P : Program} {w : World} {base : Nat} {spare : Nat → Bool} {held : Bool}
theorem cell_ltF {w : World} {a : Addr} {v : Value} (h : w.cell? a = some v) : a.block < w.heap.size := by
 unfold World.cell? at h
 split at h
 ·rename_i hh
  exact (Array.getElem?_eq_some_iff.1 hh).1
 ·cases h
theorem add_plainF (b off i : Nat) : (⟨b, off, none⟩ : Addr).add i = ⟨b, off + i, none⟩ := by
 unfold Addr.add
 split <;> simp_all
theorem choose_listF {D : Type} {p : Nat → D → Prop} : ∀ n : Nat, (∀ i, i < n → ∃ d, p i d) → ∃ l : List D, l.length = n ∧ ∀ (i : Nat) (d : D), l[i]? = some d → p i d
 | 0, _ => ⟨[], rfl, fun i d h => by simp at h⟩
 | n + 1, h => by
  obtain ⟨l, hl, hp⟩ := choose_listF n fun i hi => h i (by omega)
  obtain ⟨d, hd⟩ := h n (by omega)
  refine ⟨l ++ [d], by simp [hl], fun i x hx => ?_⟩
  by_cases hi : i < l.length
  ·rw [List.getElem?_append_left hi] at hx
   exact hp i x hx
  ·have h1 := lt_of_get hx
   simp at h1
   obtain rfl : i = l.length := by omega
   simp at hx
   subst hx
   rw [hl]
   exact hd
theorem rows_of {D : Type} {k : Nat} {R : List Value → D → Prop} {a : Addr} {len : Nat} (hk : 0 < k) (hlen : len ≤ 9223372036854775807)
  (h : ∀ i, i < len → ∃ d : D, ∃ cs : List Value, cs.length = k ∧ (∀ (j : Nat) (u : Value), cs[j]? = some u → w.cell? (a.add (i * k + j)) = some u) ∧ R cs d) :
  ∃ ds : List D, ds.length = len ∧ RowsOf w w.heap.size k R (some a) ds := by
 obtain ⟨ds, hl, hd⟩ := choose_listF len h
 refine ⟨ds, hl, by omega, fun hne => ?_⟩
 obtain ⟨b, off, spot⟩ := a
 have hd0 : ds[0]? = some (ds[0]'(by cases ds; exact absurd rfl hne; simp)) := List.getElem?_eq_getElem _
 obtain ⟨cs0, hc0, hcell0, -⟩ := hd 0 _ hd0
 have h00 : cs0[0]? = some (cs0[0]'(by omega)) := List.getElem?_eq_getElem _
 have h0 := hcell0 0 _ h00
 have hspot : spot = none := by simpa [Addr.add] using World.cell?_spot h0
 subst hspot
 have hb := cell_ltF h0
 rw [add_plainF] at hb
 refine ⟨b, off, rfl, hb, fun i d hi => ?_⟩
 obtain ⟨cs, hcl, hcell, hr⟩ := hd i d hi
 refine ⟨cs, hcl, fun j u hu => ?_, hr⟩
 have := hcell j u hu
 rw [add_plainF] at this
 rw [Nat.add_assoc]
 exact this
theorem sl_rows {D : Type} {k : Nat} {en : D → Nat → Value} {A : Option Addr} {ds : List D} (h : RowsOf w w.heap.size k (fun cs d => ∀ j, j < k → cs[j]? = some (en d j)) A ds) : Sl w w.heap.size k en A ds :=
 ⟨h.1, fun hne => by
  obtain ⟨b, off, e, hb, hc⟩ := h.2 hne
  refine ⟨b, off, e, hb, fun i d hd j hj => ?_⟩
  obtain ⟨cs, hl, hcs, hr⟩ := hc i d hd
  exact hcs j _ (hr j hj)⟩
theorem rows_in {t e k : Nat} (ht : P.underlying t = some (.slice e)) (hC : P.cellsOf e = k) (hk : 0 < k) {D : Type} {R : List Value → D → Prop}
  (hR : ∀ (n : Nat) (cs : List Value) (x : DataW H × List MemPlace), cs.length = k → DataW.trod enc P w base spare held n e cs = some x → ∃ d, R cs d)
  {fuel : Nat} {v : Value} {x : DataW H × List MemPlace} (h : DataW.trod enc P w base spare held fuel t [v] = some x) :
  ∃ A c, ∃ ds : List D, v = .slice A ds.length c ∧ RowsOf w w.heap.size k R A ds ∧ ds.length ≤ c := by
 rcases open_slice ht h with ⟨h1, -⟩ | ⟨a, len, cap, m, n, D', Pl, h1, -, hlc, hcm, hm, -, hc⟩
 ·injection h1 with h1 _
  subst h1
  exact ⟨none, 0, [], rfl, RowsOf.nil rfl, Nat.le_refl _⟩
 ·injection h1 with h1 _
  subst h1
  rw [hC] at hc
  have hle : len ≤ m := by rw [hm]; split <;> omega
  obtain ⟨ds, hl, hs⟩ := rows_of (w := w) (R := R) (a := a) (len := len) (k := k) hk (by unfold maxLen at hcm; omega) (fun i hi => by
   obtain ⟨cs, hcs, ht'⟩ := hc i (by omega)
   obtain ⟨_, hlen, hcell⟩ := World.cells?_some hcs
   obtain ⟨d, hd⟩ := hR n cs _ hlen ht'
   refine ⟨d, cs, hlen, fun j u hu => ?_, hd⟩
   have g := hcell j (by rw [← hlen]; exact lt_of_get hu)
   have hadd : (a.add (i * k)).add j = a.add (i * k + j) := Go.Deep.add_add ..
   rw [hadd] at g
   rw [g]
   exact hu)
  exact ⟨some a, cap, ds, by rw [hl], hs, by omega⟩
end
section
variable {H : Type} {enc : TypeId × Value → H} {w : World} {base : Nat} {spare : Nat → Bool} {held : Bool}
theorem int1 {n : Nat} {cs : List Value} {x : DataW H × List MemPlace} (h : DataW.trod enc Tryd.prog w base spare held n 3 cs = some x) : ∃ z : Int, cs = [.int .i64 z] := by
 obtain ⟨z, hz, _⟩ := DataW.trod_int Tryd.underlying3 h
 exact ⟨z, hz⟩
theorem ints_inF {fuel : Nat} {v : Value} {x : DataW H × List MemPlace} (h : DataW.trod enc Tryd.prog w base spare held fuel 24 [v] = some x) : ∃ A c, ∃ xs : List Int, v = .slice A xs.length c ∧ Sl w w.heap.size 1 encI A xs := by
 obtain ⟨A, c, ds, hv, hr, _⟩ := rows_in (D := Int) (R := fun cs z => ∀ j, j < 1 → cs[j]? = some (encI z j)) Tryd.underlying24 (k := 1) (by kernel_rfl) (by omega) (fun n cs x hl ht => by
  obtain ⟨z, rfl⟩ := int1 ht
  exact ⟨z, fun j hj => by
   have : j = 0 := by omega
   subst this
   rfl⟩) h
 exact ⟨A, c, ds, hv, sl_rows hr⟩
theorem strs_inF {fuel : Nat} {v : Value} {x : DataW H × List MemPlace} (h : DataW.trod enc Tryd.prog w base spare held fuel 22 [v] = some x) : ∃ A c, ∃ xs : List ByteArray, v = .slice A xs.length c ∧ Sl w w.heap.size 1 encS A xs ∧ ∀ s ∈ xs, s.size ≤ 9223372036854775807 := by
 obtain ⟨A, c, ds, hv, hr, _⟩ := rows_in (D := { s : ByteArray // s.size ≤ 9223372036854775807 }) (R := fun cs z => ∀ j, j < 1 → cs[j]? = some (encS z.1 j)) Tryd.underlying22 (k := 1) (by kernel_rfl) (by omega) (fun n cs x hl ht => by
  obtain ⟨z, rfl, _, hz⟩ := DataW.trod_string Tryd.underlying9 ht
  exact ⟨⟨z, by unfold maxLen at hz; omega⟩, fun j hj => by
   have : j = 0 := by omega
   subst this
   rfl⟩) h
 refine ⟨A, c, ds.map (·.1), by rw [List.length_map]; exact hv, ?_, fun s hs => ?_⟩
 ·have h1 := sl_rows (en := fun (z : { s : ByteArray // s.size ≤ 9223372036854775807 }) j => encS z.1 j) hr
  refine ⟨by rw [List.length_map]; exact h1.1, fun hne => ?_⟩
  obtain ⟨b, off, e, hb, hc⟩ := h1.2 (by intro e; rw [e] at hne; exact hne rfl)
  refine ⟨b, off, e, hb, fun k d hd j hj => ?_⟩
  rw [List.getElem?_map] at hd
  cases hz : ds[k]? with
  | none => rw [hz] at hd; cases hd
  | some z =>
   rw [hz] at hd
   obtain rfl := Option.some.inj hd
   exact hc k z hz j hj
 ·obtain ⟨z, _, rfl⟩ := List.mem_map.1 hs
  exact z.2
theorem intAtF {cs : List Value} {n i : Nat} {x : Option (DataW H × List MemPlace)} (h : DataW.trod enc Tryd.prog w base spare held n 3 ((cs.drop i).take 1) = x) (hx : x.isSome = true) : ∃ z : Int, cs[i]? = some (.int .i64 z) := by
 obtain ⟨y, rfl⟩ := Option.isSome_iff_exists.1 hx
 obtain ⟨z, hz⟩ := int1 h
 refine ⟨z, ?_⟩
 have h1 : ((cs.drop i).take 1)[0]? = some (.int .i64 z) := by rw [hz]; rfl
 rw [List.getElem?_take] at h1
 simpa using h1
theorem one_at {cs : List Value} {i : Nat} (h : i < cs.length) : ∃ v, cs[i]? = some v ∧ (cs.drop i).take 1 = [v] := by
 refine ⟨cs[i], List.getElem?_eq_getElem h, ?_⟩
 rw [List.drop_eq_getElem_cons h]
 rfl
theorem someAt {A : Type} {xs : List A} {n k : Nat} (h : xs.length = n) (hk : k < n) : (xs[k]?).isSome = true := by
 rw [List.getElem?_eq_getElem (by omega)]
 rfl
theorem lin_ofF {n : Nat} {cs : List Value} {x : DataW H × List MemPlace} (h : DataW.trod enc Tryd.prog w base spare held n 83 cs = some x) : ∃ l : Lin, ∀ j, j < 4 → cs[j]? = some (encLin l j) := by
 obtain ⟨xs, n', _, _, _, hxl, hf⟩ := DataW.trod_struct Tryd.underlying83 h
 have hl : xs.length = 4 := hxl
 have h3 : Tryd.prog.cellsOf 3 = 1 := by kernel_rfl
 have f0 : DataW.trod enc Tryd.prog w base spare held n' 3 ((cs.drop 0).take (Tryd.prog.cellsOf 3)) = xs[0]? := hf 0 _ rfl
 have f1 : DataW.trod enc Tryd.prog w base spare held n' 3 ((cs.drop 1).take (Tryd.prog.cellsOf 3)) = xs[1]? := hf 1 _ rfl
 have f2 : DataW.trod enc Tryd.prog w base spare held n' 3 ((cs.drop 2).take (Tryd.prog.cellsOf 3)) = xs[2]? := hf 2 _ rfl
 have f3 : DataW.trod enc Tryd.prog w base spare held n' 3 ((cs.drop 3).take (Tryd.prog.cellsOf 3)) = xs[3]? := hf 3 _ rfl
 rw [h3] at f0 f1 f2 f3
 obtain ⟨z0, e0⟩ := intAtF f0 (someAt hl (by omega))
 obtain ⟨z1, e1⟩ := intAtF f1 (someAt hl (by omega))
 obtain ⟨z2, e2⟩ := intAtF f2 (someAt hl (by omega))
 obtain ⟨z3, e3⟩ := intAtF f3 (someAt hl (by omega))
 refine ⟨⟨z0, z1, z2, z3⟩, fun j hj => ?_⟩
 match j, hj with
 | 0, _ => exact e0
 | 1, _ => exact e1
 | 2, _ => exact e2
 | 3, _ => exact e3
theorem lins_inF {fuel : Nat} {v : Value} {x : DataW H × List MemPlace} (h : DataW.trod enc Tryd.prog w base spare held fuel 23 [v] = some x) : ∃ A c, ∃ xs : List Lin, v = .slice A xs.length c ∧ Sl w w.heap.size 4 encLin A xs := by
 obtain ⟨A, c, ds, hv, hr, _⟩ := rows_in (D := Lin) (R := fun cs l => ∀ j, j < 4 → cs[j]? = some (encLin l j)) Tryd.underlying23 (k := 4) (by kernel_rfl) (by omega) (fun n cs x hl ht => lin_ofF ht) h
 exact ⟨A, c, ds, hv, sl_rows hr⟩
theorem thr_ofF {n : Nat} {cs : List Value} {x : DataW H × List MemPlace} (h : DataW.trod enc Tryd.prog w base spare held n 113 cs = some x) : ∃ g : Thr, ∀ j, j < 6 → cs[j]? = some (encThr g j) := by
 obtain ⟨xs, n', _, _, _, hxl, hf⟩ := DataW.trod_struct Tryd.underlying113 h
 have hl : xs.length = 3 := hxl
 have h3 : Tryd.prog.cellsOf 3 = 1 := by kernel_rfl
 have h83 : Tryd.prog.cellsOf 83 = 4 := by kernel_rfl
 have f0 : DataW.trod enc Tryd.prog w base spare held n' 3 ((cs.drop 0).take (Tryd.prog.cellsOf 3)) = xs[0]? := hf 0 _ rfl
 have f1 : DataW.trod enc Tryd.prog w base spare held n' 3 ((cs.drop 1).take (Tryd.prog.cellsOf 3)) = xs[1]? := hf 1 _ rfl
 have f2 : DataW.trod enc Tryd.prog w base spare held n' 83 ((cs.drop 2).take (Tryd.prog.cellsOf 83)) = xs[2]? := hf 2 _ rfl
 rw [h3] at f0 f1
 rw [h83] at f2
 obtain ⟨z0, e0⟩ := intAtF f0 (someAt hl (by omega))
 obtain ⟨z1, e1⟩ := intAtF f1 (someAt hl (by omega))
 obtain ⟨y2, hy2⟩ := Option.isSome_iff_exists.1 (someAt hl (show 2 < 3 by omega))
 rw [hy2] at f2
 obtain ⟨l, hlin⟩ := lin_ofF f2
 have hat : ∀ j, j < 4 → cs[2 + j]? = some (encLin l j) := fun j hj => by
  have h1 := hlin j hj
  rw [List.getElem?_take, if_pos hj, List.getElem?_drop] at h1
  exact h1
 refine ⟨⟨z0, z1, l⟩, fun j hj => ?_⟩
 match j, hj with
 | 0, _ => exact e0
 | 1, _ => exact e1
 | 2, _ => exact hat 0 (by omega)
 | 3, _ => exact hat 1 (by omega)
 | 4, _ => exact hat 2 (by omega)
 | 5, _ => exact hat 3 (by omega)
theorem thrs_inF {fuel : Nat} {v : Value} {x : DataW H × List MemPlace} (h : DataW.trod enc Tryd.prog w base spare held fuel 49 [v] = some x) : ∃ A c, ∃ xs : List Thr, v = .slice A xs.length c ∧ Sl w w.heap.size 6 encThr A xs := by
 obtain ⟨A, c, ds, hv, hr, _⟩ := rows_in (D := Thr) (R := fun cs l => ∀ j, j < 6 → cs[j]? = some (encThr l j)) Tryd.underlying49 (k := 6) (by kernel_rfl) (by omega) (fun n cs x hl ht => thr_ofF ht) h
 exact ⟨A, c, ds, hv, sl_rows hr⟩
theorem intsAtF {cs : List Value} {n i : Nat} {x : Option (DataW H × List MemPlace)} (h : DataW.trod enc Tryd.prog w base spare held n 24 ((cs.drop i).take 1) = x) (hx : x.isSome = true) (hi : i < cs.length) : ∃ A c, ∃ xs : List Int, cs[i]? = some (.slice A xs.length c) ∧ Sl w w.heap.size 1 encI A xs := by
 obtain ⟨y, rfl⟩ := Option.isSome_iff_exists.1 hx
 obtain ⟨v, hv, h1⟩ := one_at hi
 rw [h1] at h
 obtain ⟨A, c, xs, rfl, hs⟩ := ints_inF h
 exact ⟨A, c, xs, hv, hs⟩
theorem thrsAtF {cs : List Value} {n i : Nat} {x : Option (DataW H × List MemPlace)} (h : DataW.trod enc Tryd.prog w base spare held n 49 ((cs.drop i).take 1) = x) (hx : x.isSome = true) (hi : i < cs.length) : ∃ A c, ∃ xs : List Thr, cs[i]? = some (.slice A xs.length c) ∧ Sl w w.heap.size 6 encThr A xs := by
 obtain ⟨y, rfl⟩ := Option.isSome_iff_exists.1 hx
 obtain ⟨v, hv, h1⟩ := one_at hi
 rw [h1] at h
 obtain ⟨A, c, xs, rfl, hs⟩ := thrs_inF h
 exact ⟨A, c, xs, hv, hs⟩
theorem linsAtF {cs : List Value} {n i : Nat} {x : Option (DataW H × List MemPlace)} (h : DataW.trod enc Tryd.prog w base spare held n 23 ((cs.drop i).take 1) = x) (hx : x.isSome = true) (hi : i < cs.length) : ∃ A c, ∃ xs : List Lin, cs[i]? = some (.slice A xs.length c) ∧ Sl w w.heap.size 4 encLin A xs := by
 obtain ⟨y, rfl⟩ := Option.isSome_iff_exists.1 hx
 obtain ⟨v, hv, h1⟩ := one_at hi
 rw [h1] at h
 obtain ⟨A, c, xs, rfl, hs⟩ := lins_inF h
 exact ⟨A, c, xs, hv, hs⟩
theorem strsAtF {cs : List Value} {n i : Nat} {x : Option (DataW H × List MemPlace)} (h : DataW.trod enc Tryd.prog w base spare held n 22 ((cs.drop i).take 1) = x) (hx : x.isSome = true) (hi : i < cs.length) : ∃ A c, ∃ xs : List ByteArray, cs[i]? = some (.slice A xs.length c) ∧ Sl w w.heap.size 1 encS A xs ∧ ∀ s ∈ xs, s.size ≤ 9223372036854775807 := by
 obtain ⟨y, rfl⟩ := Option.isSome_iff_exists.1 hx
 obtain ⟨v, hv, h1⟩ := one_at hi
 rw [h1] at h
 obtain ⟨A, c, xs, rfl, hs, hb⟩ := strs_inF h
 exact ⟨A, c, xs, hv, hs, hb⟩
theorem strAtF {cs : List Value} {n i : Nat} {x : Option (DataW H × List MemPlace)} (h : DataW.trod enc Tryd.prog w base spare held n 9 ((cs.drop i).take 1) = x) (hx : x.isSome = true) : ∃ z : ByteArray, cs[i]? = some (.string z) ∧ z.size ≤ 9223372036854775807 := by
 obtain ⟨y, rfl⟩ := Option.isSome_iff_exists.1 hx
 obtain ⟨z, hz, _, hb⟩ := DataW.trod_string Tryd.underlying9 h
 refine ⟨z, ?_, by unfold maxLen at hb; omega⟩
 have h1 : ((cs.drop i).take 1)[0]? = some (.string z) := by rw [hz]; rfl
 rw [List.getElem?_take] at h1
 simpa using h1
theorem rule_ofF {n : Nat} {cs : List Value} {x : DataW H × List MemPlace} (hcl : cs.length = 18) (h : DataW.trod enc Tryd.prog w base spare held n 51 cs = some x) : ∃ r : RuleD, RuleIs w w.heap.size cs r ∧ r.name.size ≤ 9223372036854775807 := by
 obtain ⟨xs, n', _, _, _, hxl, hf⟩ := DataW.trod_struct Tryd.underlying51 h
 have hl : xs.length = 18 := hxl
 have hc3 : Tryd.prog.cellsOf 3 = 1 := by kernel_rfl
 have hc9 : Tryd.prog.cellsOf 9 = 1 := by kernel_rfl
 have hc24 : Tryd.prog.cellsOf 24 = 1 := by kernel_rfl
 have hc49 : Tryd.prog.cellsOf 49 = 1 := by kernel_rfl
 have f0 : DataW.trod enc Tryd.prog w base spare held n' 9 ((cs.drop 0).take (Tryd.prog.cellsOf 9)) = xs[0]? := hf 0 _ rfl
 rw [hc9] at f0
 obtain ⟨z0, e0, b0⟩ := strAtF f0 (someAt hl (by omega))
 have f1 : DataW.trod enc Tryd.prog w base spare held n' 3 ((cs.drop 1).take (Tryd.prog.cellsOf 3)) = xs[1]? := hf 1 _ rfl
 rw [hc3] at f1
 obtain ⟨z1, e1⟩ := intAtF f1 (someAt hl (by omega))
 have f2 : DataW.trod enc Tryd.prog w base spare held n' 3 ((cs.drop 2).take (Tryd.prog.cellsOf 3)) = xs[2]? := hf 2 _ rfl
 rw [hc3] at f2
 obtain ⟨z2, e2⟩ := intAtF f2 (someAt hl (by omega))
 have f3 : DataW.trod enc Tryd.prog w base spare held n' 3 ((cs.drop 3).take (Tryd.prog.cellsOf 3)) = xs[3]? := hf 3 _ rfl
 rw [hc3] at f3
 obtain ⟨z3, e3⟩ := intAtF f3 (someAt hl (by omega))
 have f4 : DataW.trod enc Tryd.prog w base spare held n' 3 ((cs.drop 4).take (Tryd.prog.cellsOf 3)) = xs[4]? := hf 4 _ rfl
 rw [hc3] at f4
 obtain ⟨z4, e4⟩ := intAtF f4 (someAt hl (by omega))
 have f5 : DataW.trod enc Tryd.prog w base spare held n' 3 ((cs.drop 5).take (Tryd.prog.cellsOf 3)) = xs[5]? := hf 5 _ rfl
 rw [hc3] at f5
 obtain ⟨z5, e5⟩ := intAtF f5 (someAt hl (by omega))
 have f6 : DataW.trod enc Tryd.prog w base spare held n' 24 ((cs.drop 6).take (Tryd.prog.cellsOf 24)) = xs[6]? := hf 6 _ rfl
 rw [hc24] at f6
 obtain ⟨A6, c6, z6, e6, s6⟩ := intsAtF f6 (someAt hl (by omega)) (by omega)
 have f7 : DataW.trod enc Tryd.prog w base spare held n' 49 ((cs.drop 7).take (Tryd.prog.cellsOf 49)) = xs[7]? := hf 7 _ rfl
 rw [hc49] at f7
 obtain ⟨A7, c7, z7, e7, s7⟩ := thrsAtF f7 (someAt hl (by omega)) (by omega)
 have f8 : DataW.trod enc Tryd.prog w base spare held n' 24 ((cs.drop 8).take (Tryd.prog.cellsOf 24)) = xs[8]? := hf 8 _ rfl
 rw [hc24] at f8
 obtain ⟨A8, c8, z8, e8, s8⟩ := intsAtF f8 (someAt hl (by omega)) (by omega)
 have f9 : DataW.trod enc Tryd.prog w base spare held n' 24 ((cs.drop 9).take (Tryd.prog.cellsOf 24)) = xs[9]? := hf 9 _ rfl
 rw [hc24] at f9
 obtain ⟨A9, c9, z9, e9, s9⟩ := intsAtF f9 (someAt hl (by omega)) (by omega)
 have f10 : DataW.trod enc Tryd.prog w base spare held n' 3 ((cs.drop 10).take (Tryd.prog.cellsOf 3)) = xs[10]? := hf 10 _ rfl
 rw [hc3] at f10
 obtain ⟨z10, e10⟩ := intAtF f10 (someAt hl (by omega))
 have f11 : DataW.trod enc Tryd.prog w base spare held n' 3 ((cs.drop 11).take (Tryd.prog.cellsOf 3)) = xs[11]? := hf 11 _ rfl
 rw [hc3] at f11
 obtain ⟨z11, e11⟩ := intAtF f11 (someAt hl (by omega))
 have f12 : DataW.trod enc Tryd.prog w base spare held n' 24 ((cs.drop 12).take (Tryd.prog.cellsOf 24)) = xs[12]? := hf 12 _ rfl
 rw [hc24] at f12
 obtain ⟨A12, c12, z12, e12, s12⟩ := intsAtF f12 (someAt hl (by omega)) (by omega)
 have f13 : DataW.trod enc Tryd.prog w base spare held n' 3 ((cs.drop 13).take (Tryd.prog.cellsOf 3)) = xs[13]? := hf 13 _ rfl
 rw [hc3] at f13
 obtain ⟨z13, e13⟩ := intAtF f13 (someAt hl (by omega))
 have f14 : DataW.trod enc Tryd.prog w base spare held n' 24 ((cs.drop 14).take (Tryd.prog.cellsOf 24)) = xs[14]? := hf 14 _ rfl
 rw [hc24] at f14
 obtain ⟨A14, c14, z14, e14, s14⟩ := intsAtF f14 (someAt hl (by omega)) (by omega)
 have f15 : DataW.trod enc Tryd.prog w base spare held n' 24 ((cs.drop 15).take (Tryd.prog.cellsOf 24)) = xs[15]? := hf 15 _ rfl
 rw [hc24] at f15
 obtain ⟨A15, c15, z15, e15, s15⟩ := intsAtF f15 (someAt hl (by omega)) (by omega)
 have f16 : DataW.trod enc Tryd.prog w base spare held n' 24 ((cs.drop 16).take (Tryd.prog.cellsOf 24)) = xs[16]? := hf 16 _ rfl
 rw [hc24] at f16
 obtain ⟨A16, c16, z16, e16, s16⟩ := intsAtF f16 (someAt hl (by omega)) (by omega)
 have f17 : DataW.trod enc Tryd.prog w base spare held n' 3 ((cs.drop 17).take (Tryd.prog.cellsOf 3)) = xs[17]? := hf 17 _ rfl
 rw [hc3] at f17
 obtain ⟨z17, e17⟩ := intAtF f17 (someAt hl (by omega))
 have hcs : cs = [.string z0, .int .i64 z1, .int .i64 z2, .int .i64 z3, .int .i64 z4, .int .i64 z5, .slice A6 z6.length c6, .slice A7 z7.length c7, .slice A8 z8.length c8, .slice A9 z9.length c9, .int .i64 z10, .int .i64 z11, .slice A12 z12.length c12, .int .i64 z13, .slice A14 z14.length c14, .slice A15 z15.length c15, .slice A16 z16.length c16, .int .i64 z17] := by
  apply List.ext_getElem?
  intro j
  by_cases hj : j < 18
  ·match j, hj with
   | 0, _ => exact e0
   | 1, _ => exact e1
   | 2, _ => exact e2
   | 3, _ => exact e3
   | 4, _ => exact e4
   | 5, _ => exact e5
   | 6, _ => exact e6
   | 7, _ => exact e7
   | 8, _ => exact e8
   | 9, _ => exact e9
   | 10, _ => exact e10
   | 11, _ => exact e11
   | 12, _ => exact e12
   | 13, _ => exact e13
   | 14, _ => exact e14
   | 15, _ => exact e15
   | 16, _ => exact e16
   | 17, _ => exact e17
   | k + 18, hj => exact absurd hj (by omega)
  ·rw [List.getElem?_eq_none (by omega), List.getElem?_eq_none (by simp; omega)]
 exact ⟨⟨z0, z1, z2, z3, z4, z5, z6, z7, z8, z9, z10, z11, z12, z13, z14, z15, z16, z17⟩, ⟨A6, c6, A7, c7, A8, c8, A9, c9, A12, c12, A14, c14, A15, c15, A16, c16, hcs, s6, s7, s8, s9, s12, s14, s15, s16⟩, b0⟩
theorem rules_inF {fuel : Nat} {v : Value} {x : DataW H × List MemPlace} (h : DataW.trod enc Tryd.prog w base spare held fuel 25 [v] = some x) : ∃ A c, ∃ xs : List RuleD, v = .slice A xs.length c ∧ RowsOf w w.heap.size 18 (RuleIs w w.heap.size) A xs ∧ xs.length ≤ c ∧ ∀ r ∈ xs, r.name.size ≤ 9223372036854775807 := by
 obtain ⟨A, c, ds, hv, hr, hc⟩ := rows_in (D := { r : RuleD // r.name.size ≤ 9223372036854775807 }) (R := fun cs l => RuleIs w w.heap.size cs l.1) Tryd.underlying25 (k := 18) (by kernel_rfl) (by omega) (fun n cs x hl ht => by
  obtain ⟨r, h1, h2⟩ := rule_ofF hl ht
  exact ⟨⟨r, h2⟩, h1⟩) h
 refine ⟨A, c, ds.map (·.1), by rw [List.length_map]; exact hv, ⟨by rw [List.length_map]; exact hr.1, fun hne => ?_⟩, by rw [List.length_map]; exact hc, fun r hm => ?_⟩
 ·obtain ⟨b, off, e, hb, hcc⟩ := hr.2 (by intro e; rw [e] at hne; exact hne rfl)
  refine ⟨b, off, e, hb, fun i d hd => ?_⟩
  rw [List.getElem?_map] at hd
  cases hz : ds[i]? with
  | none => rw [hz] at hd; cases hd
  | some z =>
   rw [hz] at hd
   obtain rfl := Option.some.inj hd
   exact hcc i z hz
 ·obtain ⟨z, _, rfl⟩ := List.mem_map.1 hm
  exact z.2
theorem count_ofF {n : Nat} {cs : List Value} {x : DataW H × List MemPlace} (hcl : cs.length = 2) (h : DataW.trod enc Tryd.prog w base spare held n 54 cs = some x) : ∃ c : CountD, CountIs w w.heap.size cs c := by
 obtain ⟨xs, n', _, _, _, hxl, hf⟩ := DataW.trod_struct Tryd.underlying54 h
 have hl : xs.length = 2 := hxl
 have hc3 : Tryd.prog.cellsOf 3 = 1 := by kernel_rfl
 have hc24 : Tryd.prog.cellsOf 24 = 1 := by kernel_rfl
 have f0 : DataW.trod enc Tryd.prog w base spare held n' 24 ((cs.drop 0).take (Tryd.prog.cellsOf 24)) = xs[0]? := hf 0 _ rfl
 rw [hc24] at f0
 obtain ⟨A0, c0, z0, e0, s0⟩ := intsAtF f0 (someAt hl (by omega)) (by omega)
 have f1 : DataW.trod enc Tryd.prog w base spare held n' 3 ((cs.drop 1).take (Tryd.prog.cellsOf 3)) = xs[1]? := hf 1 _ rfl
 rw [hc3] at f1
 obtain ⟨z1, e1⟩ := intAtF f1 (someAt hl (by omega))
 have hcs : cs = [.slice A0 z0.length c0, .int .i64 z1] := by
  apply List.ext_getElem?
  intro j
  by_cases hj : j < 2
  ·match j, hj with
   | 0, _ => exact e0
   | 1, _ => exact e1
   | k + 2, hj => exact absurd hj (by omega)
  ·rw [List.getElem?_eq_none (by omega), List.getElem?_eq_none (by simp; omega)]
 exact ⟨⟨z0, z1⟩, ⟨A0, c0, hcs, s0⟩⟩
theorem counts_inF {fuel : Nat} {v : Value} {x : DataW H × List MemPlace} (h : DataW.trod enc Tryd.prog w base spare held fuel 28 [v] = some x) : ∃ A c, ∃ xs : List CountD, v = .slice A xs.length c ∧ RowsOf w w.heap.size 2 (CountIs w w.heap.size) A xs ∧ True := by
 obtain ⟨A, c, ds, hv, hr, _⟩ := rows_in (D := CountD) (R := CountIs w w.heap.size) Tryd.underlying28 (k := 2) (by kernel_rfl) (by omega) (fun n cs x hl ht => count_ofF hl ht) h
 exact ⟨A, c, ds, hv, hr, trivial⟩
theorem rulesAtF {cs : List Value} {n i : Nat} {x : Option (DataW H × List MemPlace)} (h : DataW.trod enc Tryd.prog w base spare held n 25 ((cs.drop i).take 1) = x) (hx : x.isSome = true) (hi : i < cs.length) : ∃ A c, ∃ xs : List RuleD, cs[i]? = some (.slice A xs.length c) ∧ RowsOf w w.heap.size 18 (RuleIs w w.heap.size) A xs ∧ xs.length ≤ c ∧ ∀ r ∈ xs, r.name.size ≤ 9223372036854775807 := by
 obtain ⟨y, rfl⟩ := Option.isSome_iff_exists.1 hx
 obtain ⟨v, hv, h1⟩ := one_at hi
 rw [h1] at h
 obtain ⟨A, c, xs, rfl, hs, hb⟩ := rules_inF h
 exact ⟨A, c, xs, hv, hs, hb⟩
theorem countsAtF {cs : List Value} {n i : Nat} {x : Option (DataW H × List MemPlace)} (h : DataW.trod enc Tryd.prog w base spare held n 28 ((cs.drop i).take 1) = x) (hx : x.isSome = true) (hi : i < cs.length) : ∃ A c, ∃ xs : List CountD, cs[i]? = some (.slice A xs.length c) ∧ RowsOf w w.heap.size 2 (CountIs w w.heap.size) A xs ∧ True := by
 obtain ⟨y, rfl⟩ := Option.isSome_iff_exists.1 hx
 obtain ⟨v, hv, h1⟩ := one_at hi
 rw [h1] at h
 obtain ⟨A, c, xs, rfl, hs, hb⟩ := counts_inF h
 exact ⟨A, c, xs, hv, hs, hb⟩
theorem prot_ofF {n : Nat} {cs : List Value} {x : DataW H × List MemPlace} (hcl : cs.length = 10) (h : DataW.trod enc Tryd.prog w base spare held n 27 cs = some x) : ∃ p : ProtD, ProtIs w w.heap.size cs p ∧ p.Fits := by
 obtain ⟨xs, n', _, _, _, hxl, hf⟩ := DataW.trod_struct Tryd.underlying27 h
 have hl : xs.length = 10 := hxl
 have hc3 : Tryd.prog.cellsOf 3 = 1 := by kernel_rfl
 have hc9 : Tryd.prog.cellsOf 9 = 1 := by kernel_rfl
 have hc22 : Tryd.prog.cellsOf 22 = 1 := by kernel_rfl
 have hc23 : Tryd.prog.cellsOf 23 = 1 := by kernel_rfl
 have hc24 : Tryd.prog.cellsOf 24 = 1 := by kernel_rfl
 have hc25 : Tryd.prog.cellsOf 25 = 1 := by kernel_rfl
 have f0 : DataW.trod enc Tryd.prog w base spare held n' 9 ((cs.drop 0).take (Tryd.prog.cellsOf 9)) = xs[0]? := hf 0 _ rfl
 rw [hc9] at f0
 obtain ⟨z0, e0, b0⟩ := strAtF f0 (someAt hl (by omega))
 have f1 : DataW.trod enc Tryd.prog w base spare held n' 3 ((cs.drop 1).take (Tryd.prog.cellsOf 3)) = xs[1]? := hf 1 _ rfl
 rw [hc3] at f1
 obtain ⟨z1, e1⟩ := intAtF f1 (someAt hl (by omega))
 have f2 : DataW.trod enc Tryd.prog w base spare held n' 22 ((cs.drop 2).take (Tryd.prog.cellsOf 22)) = xs[2]? := hf 2 _ rfl
 rw [hc22] at f2
 obtain ⟨A2, c2, z2, e2, s2, b2⟩ := strsAtF f2 (someAt hl (by omega)) (by omega)
 have f3 : DataW.trod enc Tryd.prog w base spare held n' 22 ((cs.drop 3).take (Tryd.prog.cellsOf 22)) = xs[3]? := hf 3 _ rfl
 rw [hc22] at f3
 obtain ⟨A3, c3, z3, e3, s3, b3⟩ := strsAtF f3 (someAt hl (by omega)) (by omega)
 have f4 : DataW.trod enc Tryd.prog w base spare held n' 22 ((cs.drop 4).take (Tryd.prog.cellsOf 22)) = xs[4]? := hf 4 _ rfl
 rw [hc22] at f4
 obtain ⟨A4, c4, z4, e4, s4, b4⟩ := strsAtF f4 (someAt hl (by omega)) (by omega)
 have f5 : DataW.trod enc Tryd.prog w base spare held n' 3 ((cs.drop 5).take (Tryd.prog.cellsOf 3)) = xs[5]? := hf 5 _ rfl
 rw [hc3] at f5
 obtain ⟨z5, e5⟩ := intAtF f5 (someAt hl (by omega))
 have f6 : DataW.trod enc Tryd.prog w base spare held n' 23 ((cs.drop 6).take (Tryd.prog.cellsOf 23)) = xs[6]? := hf 6 _ rfl
 rw [hc23] at f6
 obtain ⟨A6, c6, z6, e6, s6⟩ := linsAtF f6 (someAt hl (by omega)) (by omega)
 have f7 : DataW.trod enc Tryd.prog w base spare held n' 24 ((cs.drop 7).take (Tryd.prog.cellsOf 24)) = xs[7]? := hf 7 _ rfl
 rw [hc24] at f7
 obtain ⟨A7, c7, z7, e7, s7⟩ := intsAtF f7 (someAt hl (by omega)) (by omega)
 have f8 : DataW.trod enc Tryd.prog w base spare held n' 24 ((cs.drop 8).take (Tryd.prog.cellsOf 24)) = xs[8]? := hf 8 _ rfl
 rw [hc24] at f8
 obtain ⟨A8, c8, z8, e8, s8⟩ := intsAtF f8 (someAt hl (by omega)) (by omega)
 have f9 : DataW.trod enc Tryd.prog w base spare held n' 25 ((cs.drop 9).take (Tryd.prog.cellsOf 25)) = xs[9]? := hf 9 _ rfl
 rw [hc25] at f9
 obtain ⟨A9, c9, z9, e9, s9, b9⟩ := rulesAtF f9 (someAt hl (by omega)) (by omega)
 have hcs : cs = [.string z0, .int .i64 z1, .slice A2 z2.length c2, .slice A3 z3.length c3, .slice A4 z4.length c4, .int .i64 z5, .slice A6 z6.length c6, .slice A7 z7.length c7, .slice A8 z8.length c8, .slice A9 z9.length c9] := by
  apply List.ext_getElem?
  intro j
  by_cases hj : j < 10
  ·match j, hj with
   | 0, _ => exact e0
   | 1, _ => exact e1
   | 2, _ => exact e2
   | 3, _ => exact e3
   | 4, _ => exact e4
   | 5, _ => exact e5
   | 6, _ => exact e6
   | 7, _ => exact e7
   | 8, _ => exact e8
   | 9, _ => exact e9
   | k + 10, hj => exact absurd hj (by omega)
  ·rw [List.getElem?_eq_none (by omega), List.getElem?_eq_none (by simp; omega)]
 refine ⟨⟨z0, z1, z2, z3, z4, z5, z6, z7, z8, z9⟩, ⟨A2, c2, A3, c3, A4, c4, A6, c6, A7, c7, A8, c8, A9, c9, hcs, s2, s3, s4, s6, s7, s8, s9, b9.1⟩, ⟨b0, fun x hx => ?_, b9.2⟩⟩
 simp only [names3, List.mem_append] at hx
 rcases hx with (hx | hx) | hx
 ·exact b2 x hx
 ·exact b3 x hx
 ·exact b4 x hx
theorem prop_ofF {n : Nat} {cs : List Value} {x : DataW H × List MemPlace} (hcl : cs.length = 6) (h : DataW.trod enc Tryd.prog w base spare held n 30 cs = some x) : ∃ q : PropD, PropIs w w.heap.size cs q ∧ q.Fits := by
 obtain ⟨xs, n', _, _, _, hxl, hf⟩ := DataW.trod_struct Tryd.underlying30 h
 have hl : xs.length = 6 := hxl
 have hc3 : Tryd.prog.cellsOf 3 = 1 := by kernel_rfl
 have hc9 : Tryd.prog.cellsOf 9 = 1 := by kernel_rfl
 have hc24 : Tryd.prog.cellsOf 24 = 1 := by kernel_rfl
 have hc28 : Tryd.prog.cellsOf 28 = 1 := by kernel_rfl
 have f0 : DataW.trod enc Tryd.prog w base spare held n' 9 ((cs.drop 0).take (Tryd.prog.cellsOf 9)) = xs[0]? := hf 0 _ rfl
 rw [hc9] at f0
 obtain ⟨z0, e0, b0⟩ := strAtF f0 (someAt hl (by omega))
 have f1 : DataW.trod enc Tryd.prog w base spare held n' 3 ((cs.drop 1).take (Tryd.prog.cellsOf 3)) = xs[1]? := hf 1 _ rfl
 rw [hc3] at f1
 obtain ⟨z1, e1⟩ := intAtF f1 (someAt hl (by omega))
 have f2 : DataW.trod enc Tryd.prog w base spare held n' 24 ((cs.drop 2).take (Tryd.prog.cellsOf 24)) = xs[2]? := hf 2 _ rfl
 rw [hc24] at f2
 obtain ⟨A2, c2, z2, e2, s2⟩ := intsAtF f2 (someAt hl (by omega)) (by omega)
 have f3 : DataW.trod enc Tryd.prog w base spare held n' 28 ((cs.drop 3).take (Tryd.prog.cellsOf 28)) = xs[3]? := hf 3 _ rfl
 rw [hc28] at f3
 obtain ⟨A3, c3, z3, e3, s3, b3⟩ := countsAtF f3 (someAt hl (by omega)) (by omega)
 have f4 : DataW.trod enc Tryd.prog w base spare held n' 24 ((cs.drop 4).take (Tryd.prog.cellsOf 24)) = xs[4]? := hf 4 _ rfl
 rw [hc24] at f4
 obtain ⟨A4, c4, z4, e4, s4⟩ := intsAtF f4 (someAt hl (by omega)) (by omega)
 have f5 : DataW.trod enc Tryd.prog w base spare held n' 24 ((cs.drop 5).take (Tryd.prog.cellsOf 24)) = xs[5]? := hf 5 _ rfl
 rw [hc24] at f5
 obtain ⟨A5, c5, z5, e5, s5⟩ := intsAtF f5 (someAt hl (by omega)) (by omega)
 have hcs : cs = [.string z0, .int .i64 z1, .slice A2 z2.length c2, .slice A3 z3.length c3, .slice A4 z4.length c4, .slice A5 z5.length c5] := by
  apply List.ext_getElem?
  intro j
  by_cases hj : j < 6
  ·match j, hj with
   | 0, _ => exact e0
   | 1, _ => exact e1
   | 2, _ => exact e2
   | 3, _ => exact e3
   | 4, _ => exact e4
   | 5, _ => exact e5
   | k + 6, hj => exact absurd hj (by omega)
  ·rw [List.getElem?_eq_none (by omega), List.getElem?_eq_none (by simp; omega)]
 exact ⟨⟨z0, z1, z2, z3, z4, z5⟩, ⟨A2, c2, A3, c3, A4, c4, A5, c5, hcs, s2, s3, s4, s5⟩, b0⟩
end
end Go.Proofs.YtbjdgepfhhafjaaDoor
