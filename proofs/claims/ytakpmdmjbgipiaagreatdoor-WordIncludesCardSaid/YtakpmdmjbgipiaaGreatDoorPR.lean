/-
  Part PR of a proof.
-/
import Derived.ProofKit
import Derived.Deep.Slices
import Derived.Deep.Fields
import Derived.ChangeArms
import Derived.LaidMore
import Derived.Lib.LaidTab
import Derived.OpenShut
import Derived.Stop.Joined
import Derived.Test.YtakpmdmjbgipiaaGreatDoorPA
import Derived.Test.YtakpmdmjbgipiaaGreatDoorPN
set_option maxHeartbeats 16000000
set_option maxRecDepth 100000
set_option linter.unusedVariables false
set_option linter.unusedSimpArgs false
namespace Go.Proofs.YtakpmdmjbgipiaaGreatDoor
open Go.RowKit Go.ChangeShapes Go.WideShapes Go.Deep Go.ChangeAt Go.WideMaps Go.WideElems
set_option maxRecDepth 100000
theorem knobF : ownKnob Tryz.prog.godebug = none := by kernel_rfl
theorem laid_outF : laidOutB Tryz.prog = true := by kernel_rfl
theorem pow_of {W : World} (h : laidMetH Tryz.prog Rows.wordImagesRow.laid W) : PowT W := by
 rw [MakeChecks.laidMetH_plain _ _ _ (by kernel_rfl)] at h
 obtain ⟨ps, ⟨g0, t0, cs0, f0, p0, q0, hg0, ht0, hv0, hd0, ⟨g1, t1, cs1, f1, p1, q1, hg1, ht1, hv1, hd1, ⟨g2, t2, cs2, f2, p2, q2, hg2, ht2, hv2, hd2, _, _⟩, _⟩, _⟩, _, _⟩ := h
 obtain rfl := Option.some.inj ((show Tryz.prog.globalNamed "internal/strconv.uint64pow10" = some 0 by kernel_rfl).symm.trans hg2)
 obtain rfl := Option.some.inj ((show (Tryz.prog.globals[0]?).map (·.type) = some 180 by kernel_rfl).symm.trans ht2)
 have hd : (Rows.laid_internal_strconv_uint64pow10 : DataW Unit) = Lib.tabData .u64 Lib.pow10Tab := by kernel_rfl
 rw [hd] at hd2
 unfold PowT Lib.TabIs
 rw [hv2, ← Lib.cells_of_tab Tryz.underlying180 Tryz.underlying167 (by kernel_rfl) (by kernel_rfl) hd2]
theorem door_metF (os : Os) (args : Array Value) : laidMetH Tryz.prog Rows.wordImagesRow.laid ((World.doorLaid Tryz.prog 400 os).forCall (fun _ _ => 0) ⟨#[], args, []⟩).memory :=
 laidMetH_of_parts3 (fuel := 8) (laidMet_of_run' 8 (by kernel_rfl) (by kernel_rfl)) (by kernel_rfl) (by kernel_rfl)
section
variable {H : Type} {enc : TypeId × Value → H} {P : Program} {w : World} {base : Nat} {spare : Nat → Bool} {held : Bool}
theorem cell_lt {w : World} {a : Addr} {v : Value} (h : w.cell? a = some v) : a.block < w.heap.size := by
 unfold World.cell? at h
 split at h
 ·rename_i hh
  exact (Array.getElem?_eq_some_iff.1 hh).1
 ·cases h
theorem add_plain_ (b off i : Nat) : (⟨b, off, none⟩ : Addr).add i = ⟨b, off + i, none⟩ := by
 unfold Addr.add
 split <;> simp_all
theorem choose_list {D : Type} {p : Nat → D → Prop} : ∀ n : Nat, (∀ i, i < n → ∃ d, p i d) → ∃ l : List D, l.length = n ∧ ∀ (i : Nat) (d : D), l[i]? = some d → p i d
 | 0, _ => ⟨[], rfl, fun i d h => by simp at h⟩
 | n + 1, h => by
  obtain ⟨l, hl, hp⟩ := choose_list n fun i hi => h i (by omega)
  obtain ⟨d, hd⟩ := h n (by omega)
  refine ⟨l ++ [d], by simp [hl], fun i x hx => ?_⟩
  by_cases hi : i < l.length
  ·rw [List.getElem?_append_left hi] at hx
   exact hp i x hx
  ·have h1 := lt_of_get hx
   simp at h1
   obtain rfl : i = l.length := by omega
   simp at hx
   subst hx
   rw [hl]
   exact hd
theorem sl_of {D : Type} {sz : Nat} {en : D → Nat → Value} {a : Addr} {len : Nat} (hs : 0 < sz) (hlen : len ≤ 9223372036854775807) (h : ∀ i, i < len → ∃ d : D, ∀ j, j < sz → w.cell? (a.add (i * sz + j)) = some (en d j)) :
  ∃ ds : List D, ds.length = len ∧ Sl w w.heap.size sz en (some a) ds := by
 obtain ⟨ds, hl, hd⟩ := choose_list len h
 refine ⟨ds, hl, by omega, fun hne => ?_⟩
 obtain ⟨b, off, spot⟩ := a
 obtain ⟨d0, hd0⟩ := get_lt (l := ds) (i := 0) (by cases ds; exact absurd rfl hne; simp)
 have h0 := hd 0 d0 hd0 0 hs
 have hspot : spot = none := by simpa [Addr.add] using World.cell?_spot h0
 subst hspot
 have hb := cell_lt h0
 rw [add_plain_] at hb
 refine ⟨b, off, rfl, hb, fun k d hk j hj => ?_⟩
 have := hd k d hk j hj
 rw [add_plain_] at this
 rw [Nat.add_assoc]
 exact this
theorem slice_in {t e k : Nat} (ht : P.underlying t = some (.slice e)) (hC : P.cellsOf e = k) (hk : 0 < k) {D : Type} {en : D → Nat → Value}
  (hR : ∀ (n : Nat) (cs : List Value) (x : DataW H × List MemPlace), cs.length = k → DataW.trod enc P w base spare held n e cs = some x → ∃ d : D, ∀ j, j < k → cs[j]? = some (en d j))
  {fuel : Nat} {v : Value} {x : DataW H × List MemPlace} (h : DataW.trod enc P w base spare held fuel t [v] = some x) :
  ∃ A c, ∃ ds : List D, v = .slice A ds.length c ∧ Sl w w.heap.size k en A ds ∧ ds.length ≤ c := by
 rcases open_slice ht h with ⟨h1, -⟩ | ⟨a, len, cap, m, n, D', Pl, h1, -, hlc, hcm, hm, -, hc⟩
 ·injection h1 with h1 _
  subst h1
  exact ⟨none, 0, [], rfl, Sl.nil rfl, Nat.le_refl _⟩
 ·injection h1 with h1 _
  subst h1
  rw [hC] at hc
  have hle : len ≤ m := by rw [hm]; split <;> omega
  obtain ⟨ds, hl, hs⟩ := sl_of (w := w) (en := en) (a := a) (len := len) (sz := k) hk (by unfold maxLen at hcm; omega) (fun i hi => by
   obtain ⟨cs, hcs, ht'⟩ := hc i (by omega)
   obtain ⟨_, hlen, hcell⟩ := World.cells?_some hcs
   obtain ⟨d, hd⟩ := hR n cs _ hlen ht'
   refine ⟨d, fun j hj => ?_⟩
   have g := hcell j hj
   have hadd : (a.add (i * k)).add j = a.add (i * k + j) := Go.Deep.add_add ..
   rw [hadd] at g
   rw [g]
   exact hd j hj)
  exact ⟨some a, cap, ds, by rw [hl], hs, by omega⟩
end
section
variable {H : Type} {enc : TypeId × Value → H} {w : World} {base : Nat} {spare : Nat → Bool} {held : Bool}
theorem someAt {A : Type} {xs : List A} {n k : Nat} (h : xs.length = n) (hk : k < n) : (xs[k]?).isSome = true := by
 rw [List.getElem?_eq_getElem (by omega)]
 rfl
theorem intAt {cs : List Value} {n i : Nat} {x : Option (DataW H × List MemPlace)} (h : DataW.trod enc Tryz.prog w base spare held n 3 ((cs.drop i).take (Tryz.prog.cellsOf 3)) = x) (hx : x.isSome = true) : ∃ z : Int, cs[i]? = some (.int .i64 z) := by
 have h3 : Tryz.prog.cellsOf 3 = 1 := by kernel_rfl
 rw [h3] at h
 obtain ⟨y, rfl⟩ := Option.isSome_iff_exists.1 hx
 obtain ⟨z, hz, _⟩ := DataW.trod_int Tryz.underlying3 h
 refine ⟨z, ?_⟩
 have h1 : ((cs.drop i).take 1)[0]? = some (.int .i64 z) := by rw [hz]; rfl
 rw [List.getElem?_take] at h1
 simpa using h1
theorem int_in {r : Go.Reach} {b0 : Nat} {v : Value} (hv : Value.okWide Tryz.prog w r b0 3 v) : ∃ z : Int, v = .int .i64 z := okWide_int Tryz.underlying3 hv
theorem ints_inF {fuel : Nat} {v : Value} {x : DataW H × List MemPlace} (h : DataW.trod enc Tryz.prog w base spare held fuel 22 [v] = some x) : ∃ A c, ∃ xs : List Int, v = .slice A xs.length c ∧ Sl w w.heap.size 1 encI A xs ∧ xs.length ≤ c :=
 slice_in Tryz.underlying22 (k := 1) (by kernel_rfl) (by omega) (fun n cs x _ ht => by
  obtain ⟨z, rfl, _⟩ := DataW.trod_int Tryz.underlying3 ht
  exact ⟨z, fun j hj => by
   have : j = 0 := by omega
   subst this
   rfl⟩) h
theorem ints_in {r : Go.Reach} {b0 : Nat} {v : Value} {d : DataW H} {p : List MemPlace} (hv : Value.okWide Tryz.prog w r b0 22 v) (h : DataW.Trod enc Tryz.prog w base spare held 22 v d p) : ∃ A c, ∃ xs : List Int, v = .slice A xs.length c ∧ Sl w w.heap.size 1 encI A xs ∧ xs.length ≤ c := by
 obtain ⟨a, n, c, rfl⟩ := okWide_slice Tryz.underlying22 hv
 obtain ⟨fuel, hf⟩ := h
 exact ints_inF hf
theorem edges_inF {fuel : Nat} {v : Value} {x : DataW H × List MemPlace} (h : DataW.trod enc Tryz.prog w base spare held fuel 26 [v] = some x) : ∃ A c, ∃ xs : List Edg, v = .slice A xs.length c ∧ Sl w w.heap.size 3 encE A xs ∧ xs.length ≤ c :=
 slice_in Tryz.underlying26 (k := 3) (by kernel_rfl) (by omega) (fun n cs x _ ht => by
  obtain ⟨xs, n', _, _, _, hxl, hf⟩ := DataW.trod_struct Tryz.underlying65 ht
  have hl : xs.length = 3 := hxl
  obtain ⟨z0, e0⟩ := intAt (hf 0 _ rfl : DataW.trod enc Tryz.prog w base spare held n' 3 ((cs.drop 0).take (Tryz.prog.cellsOf 3)) = xs[0]?) (someAt hl (by omega))
  obtain ⟨z1, e1⟩ := intAt (hf 1 _ rfl : DataW.trod enc Tryz.prog w base spare held n' 3 ((cs.drop 1).take (Tryz.prog.cellsOf 3)) = xs[1]?) (someAt hl (by omega))
  obtain ⟨z2, e2⟩ := intAt (hf 2 _ rfl : DataW.trod enc Tryz.prog w base spare held n' 3 ((cs.drop 2).take (Tryz.prog.cellsOf 3)) = xs[2]?) (someAt hl (by omega))
  refine ⟨⟨z0, z1, z2⟩, fun j hj => ?_⟩
  match j, hj with
  | 0, _ => exact e0
  | 1, _ => exact e1
  | 2, _ => exact e2) h
def encM (e : Mv) : Nat → Value
 | 0 => .int .i64 e.frm
 | 1 => .int .i64 e.inn
 | 2 => .int .i64 e.out
 | _ => .int .i64 e.to
theorem moves_inF {fuel : Nat} {v : Value} {x : DataW H × List MemPlace} (h : DataW.trod enc Tryz.prog w base spare held fuel 23 [v] = some x) : ∃ A c, ∃ xs : List Mv, v = .slice A xs.length c ∧ Sl w w.heap.size 4 encM A xs ∧ xs.length ≤ c :=
 slice_in Tryz.underlying23 (k := 4) (by kernel_rfl) (by omega) (fun n cs x _ ht => by
  obtain ⟨xs, n', _, _, _, hxl, hf⟩ := DataW.trod_struct Tryz.underlying95 ht
  have hl : xs.length = 4 := hxl
  obtain ⟨z0, e0⟩ := intAt (hf 0 _ rfl : DataW.trod enc Tryz.prog w base spare held n' 3 ((cs.drop 0).take (Tryz.prog.cellsOf 3)) = xs[0]?) (someAt hl (by omega))
  obtain ⟨z1, e1⟩ := intAt (hf 1 _ rfl : DataW.trod enc Tryz.prog w base spare held n' 3 ((cs.drop 1).take (Tryz.prog.cellsOf 3)) = xs[1]?) (someAt hl (by omega))
  obtain ⟨z2, e2⟩ := intAt (hf 2 _ rfl : DataW.trod enc Tryz.prog w base spare held n' 3 ((cs.drop 2).take (Tryz.prog.cellsOf 3)) = xs[2]?) (someAt hl (by omega))
  obtain ⟨z3, e3⟩ := intAt (hf 3 _ rfl : DataW.trod enc Tryz.prog w base spare held n' 3 ((cs.drop 3).take (Tryz.prog.cellsOf 3)) = xs[3]?) (someAt hl (by omega))
  refine ⟨⟨z0, z1, z2, z3⟩, fun j hj => ?_⟩
  match j, hj with
  | 0, _ => exact e0
  | 1, _ => exact e1
  | 2, _ => exact e2
  | 3, _ => exact e3) h
def IsTR (w : World) (B : Nat) (v : Value) (t : TR) : Prop :=
 ∃ A1 c1 A2 c2 A3 c3, v = .agg #[.int .i64 t.letters, .int .i64 t.states, .slice A1 t.start.length c1, .slice A2 t.accept.length c2, .slice A3 t.moves.length c3] ∧
  Sl w B 1 encI A1 t.start ∧ Sl w B 1 encI A2 t.accept ∧ Sl w B 4 encM A3 t.moves ∧ t.start.length ≤ c1
theorem IsTR.keep {w w' : World} {B B' : Nat} {v : Value} {a : TR} (h : IsTR w B v a) (hk : ∀ p : Addr, p.block < B → w'.cell? p = w.cell? p) (hB : B ≤ B') : IsTR w' B' v a := by
 obtain ⟨A1, c1, A2, c2, A3, c3, e, h1, h2, h3, h4⟩ := h
 exact ⟨A1, c1, A2, c2, A3, c3, e, h1.keep hk hB, h2.keep hk hB, h3.keep hk hB, h4⟩
theorem wa_in {r : Go.Reach} {b0 : Nat} {v : Value} {d : DataW H} {p : List MemPlace} (hv : Value.okWide Tryz.prog w r b0 28 v) (h : DataW.Trod enc Tryz.prog w base spare held 28 v d p) : ∃ a : WA, IsWA w w.heap.size v a := by
 obtain ⟨cs, rfl, hsz⟩ := okWide_struct Tryz.underlying28 hv
 obtain ⟨l⟩ := cs
 have hC : Tryz.prog.cellsOf 28 = 5 := by kernel_rfl
 match l, hsz.trans hC with
 | [c0, c1, c2, c3, c4], _ =>
  obtain ⟨fuel, hf⟩ := h
  obtain ⟨xs, n, _, _, _, hxl, hg⟩ := DataW.trod_struct Tryz.underlying28 hf
  have hl : xs.length = 5 := hxl
  have hxs : ∀ k, k < 5 → ∃ y, xs[k]? = some y := fun k hk => get_lt (by omega)
  have h22 : Tryz.prog.cellsOf 22 = 1 := by kernel_rfl
  have h23 : Tryz.prog.cellsOf 26 = 1 := by kernel_rfl
  have g2 : DataW.trod enc Tryz.prog w base spare held n 22 (([c0, c1, c2, c3, c4].drop 2).take (Tryz.prog.cellsOf 22)) = xs[2]? := hg 2 _ rfl
  have g3 : DataW.trod enc Tryz.prog w base spare held n 22 (([c0, c1, c2, c3, c4].drop 3).take (Tryz.prog.cellsOf 22)) = xs[3]? := hg 3 _ rfl
  have g4 : DataW.trod enc Tryz.prog w base spare held n 26 (([c0, c1, c2, c3, c4].drop 4).take (Tryz.prog.cellsOf 26)) = xs[4]? := hg 4 _ rfl
  rw [h22] at g2 g3
  rw [h23] at g4
  obtain ⟨y2, e2⟩ := hxs 2 (by omega)
  obtain ⟨y3, e3⟩ := hxs 3 (by omega)
  obtain ⟨y4, e4⟩ := hxs 4 (by omega)
  obtain ⟨z0, q0⟩ := intAt (show DataW.trod enc Tryz.prog w base spare held n 3 (([c0, c1, c2, c3, c4].drop 0).take (Tryz.prog.cellsOf 3)) = xs[0]? from hg 0 _ rfl) (someAt hl (by omega))
  obtain ⟨z1, q1⟩ := intAt (show DataW.trod enc Tryz.prog w base spare held n 3 (([c0, c1, c2, c3, c4].drop 1).take (Tryz.prog.cellsOf 3)) = xs[1]? from hg 1 _ rfl) (someAt hl (by omega))
  rw [e2] at g2
  rw [e3] at g3
  rw [e4] at g4
  have q0' : c0 = .int .i64 z0 := by simpa using q0
  have q1' : c1 = .int .i64 z1 := by simpa using q1
  obtain ⟨A2, d2, xs2, rfl, s2, l2⟩ := ints_inF (v := c2) g2
  obtain ⟨A3, d3, xs3, rfl, s3, _⟩ := ints_inF (v := c3) g3
  obtain ⟨A4, d4, xs4, rfl, s4, _⟩ := edges_inF (v := c4) g4
  subst q0' q1'
  exact ⟨⟨z0, z1, xs2, xs3, xs4⟩, A2, d2, A3, d3, A4, d4, rfl, s2, s3, s4, l2⟩
theorem tr_in {r : Go.Reach} {b0 : Nat} {v : Value} {d : DataW H} {p : List MemPlace} (hv : Value.okWide Tryz.prog w r b0 25 v) (h : DataW.Trod enc Tryz.prog w base spare held 25 v d p) : ∃ a : TR, IsTR w w.heap.size v a := by
 obtain ⟨cs, rfl, hsz⟩ := okWide_struct Tryz.underlying25 hv
 obtain ⟨l⟩ := cs
 have hC : Tryz.prog.cellsOf 25 = 5 := by kernel_rfl
 match l, hsz.trans hC with
 | [c0, c1, c2, c3, c4], _ =>
  obtain ⟨fuel, hf⟩ := h
  obtain ⟨xs, n, _, _, _, hxl, hg⟩ := DataW.trod_struct Tryz.underlying25 hf
  have hl : xs.length = 5 := hxl
  have hxs : ∀ k, k < 5 → ∃ y, xs[k]? = some y := fun k hk => get_lt (by omega)
  have h22 : Tryz.prog.cellsOf 22 = 1 := by kernel_rfl
  have h43 : Tryz.prog.cellsOf 23 = 1 := by kernel_rfl
  have g2 : DataW.trod enc Tryz.prog w base spare held n 22 (([c0, c1, c2, c3, c4].drop 2).take (Tryz.prog.cellsOf 22)) = xs[2]? := hg 2 _ rfl
  have g3 : DataW.trod enc Tryz.prog w base spare held n 22 (([c0, c1, c2, c3, c4].drop 3).take (Tryz.prog.cellsOf 22)) = xs[3]? := hg 3 _ rfl
  have g4 : DataW.trod enc Tryz.prog w base spare held n 23 (([c0, c1, c2, c3, c4].drop 4).take (Tryz.prog.cellsOf 23)) = xs[4]? := hg 4 _ rfl
  rw [h22] at g2 g3
  rw [h43] at g4
  obtain ⟨y2, e2⟩ := hxs 2 (by omega)
  obtain ⟨y3, e3⟩ := hxs 3 (by omega)
  obtain ⟨y4, e4⟩ := hxs 4 (by omega)
  obtain ⟨z0, q0⟩ := intAt (show DataW.trod enc Tryz.prog w base spare held n 3 (([c0, c1, c2, c3, c4].drop 0).take (Tryz.prog.cellsOf 3)) = xs[0]? from hg 0 _ rfl) (someAt hl (by omega))
  obtain ⟨z1, q1⟩ := intAt (show DataW.trod enc Tryz.prog w base spare held n 3 (([c0, c1, c2, c3, c4].drop 1).take (Tryz.prog.cellsOf 3)) = xs[1]? from hg 1 _ rfl) (someAt hl (by omega))
  rw [e2] at g2
  rw [e3] at g3
  rw [e4] at g4
  have q0' : c0 = .int .i64 z0 := by simpa using q0
  have q1' : c1 = .int .i64 z1 := by simpa using q1
  obtain ⟨A2, d2, xs2, rfl, s2, l2⟩ := ints_inF (v := c2) g2
  obtain ⟨A3, d3, xs3, rfl, s3, _⟩ := ints_inF (v := c3) g3
  obtain ⟨A4, d4, xs4, rfl, s4, _⟩ := moves_inF (v := c4) g4
  subst q0' q1'
  exact ⟨⟨z0, z1, xs2, xs3, xs4⟩, A2, d2, A3, d3, A4, d4, rfl, s2, s3, s4, l2⟩
end
section
variable {H : Type} {enc : TypeId × Value → H} {P : Program}
theorem law_postF {f : Func} {s : ChangeSpec} {apart fresh handsOn again : Bool} {W W' : World} {args : Array Value} {v : Value} {ds : List (DataW H)} {before : List MemPlace} (hvars : s.vars = [])
  (hW : DataW.Whole enc P f.params.toList s.vars apart W args.toList ds [] before)
  (hres : ∀ (b : Nat) (sp : Nat → Bool) (hd : Bool), DataW.TrodAll enc P W' b sp hd f.resultTypes.toList (v.resultList f.resultTypes.size) (s.fn H (ds ++ [])).results [])
  (hargs : ∀ sp : Nat → Bool, (∀ p ∈ before, sp p.block = true) → DataW.TrodAll enc P W' 0 sp true f.params.toList args.toList (s.fn H (ds ++ [])).args before) (hsv : (s.fn H (ds ++ [])).vars = [])
  (hb : Below W.heap.size W W')
  (hok : ∀ (j : Nat) (t : TypeId) (r : Value), f.resultTypes[j]? = some t → (v.resultList f.resultTypes.size)[j]? = some r → Value.okWide P W' .any 0 t r) :
  s.post enc P f apart fresh handsOn again W args v W' := by
 have hlt : ∀ p ∈ before, p.block < W.heap.size := fun p hp => hW.lt p hp
 have hold : ∀ p ∈ before, (fun b => decide (b < W.heap.size)) p.block = true := fun p hp => by simpa using hlt p hp
 have hvs : ∀ sp : Nat → Bool, DataW.TrodVars enc P W' sp s.vars (s.fn H (ds ++ [])).vars [] := fun sp => by rw [hvars, hsv]; rfl
 refine ⟨ds, [], before, [], before, [], hW, hres _ _ _, hargs _ hold, hvs _, World.keptBut_mono (fun p hp => ⟨hp, ?_⟩) (hb.frame (· ∈ before)), fun _ => ?_⟩
 ·exact Or.inr (Or.inl hp)
 ·obtain ⟨_, _, _, _, _, hz, hn⟩ := hW
  refine ⟨hok, _, _, ([] ++ before) ++ [], ⟨[] ++ before, [], trodAll_append (hargs _ (fun _ _ => rfl)) (hres _ _ _), hvs _, rfl, ?_, ?_⟩, ?_⟩
  ·intro b off hp
   have hin : MemPlace.cell b off ∈ before := by simpa using hp
   rw [hb.frozen (hlt _ hin)]
   exact hz b off hin
  ·intro ha
   simpa using hn ha
  ·intro p hp _
   simpa using hp
end
end Go.Proofs.YtakpmdmjbgipiaaGreatDoor
