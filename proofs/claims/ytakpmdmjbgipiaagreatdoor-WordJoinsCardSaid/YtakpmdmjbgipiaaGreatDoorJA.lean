/-
  Part JA of a proof.
-/
import Derived.Test.YtakpmdmjbgipiaaGreatDoorPA
import Derived.Test.YtakpmdmjbgipiaaGreatDoorPN
import Derived.Test.YtakpmdmjbgipiaaGreatDoorPI
import Derived.Test.YtakpmdmjbgipiaaGreatDoorPH
import Derived.Test.YtakpmdmjbgipiaaGreatDoorPJ
import Derived.Test.YtakpmdmjbgipiaaGreatDoorPK
set_option maxHeartbeats 16000000
set_option maxRecDepth 100000
set_option linter.unusedVariables false
set_option linter.unusedSimpArgs false
namespace Go.Proofs.YtakpmdmjbgipiaaGreatDoor
open Go.RowKit
set_option maxHeartbeats 16000000
set_option maxRecDepth 100000
def MR (w : World) (m : List Bool) (r : Value) (w' : World) : Prop := Below w.heap.size w w' ∧ Marks w' w'.heap.size r m ∧ ∀ g, r.ownBlock = some g → w.heap.size ≤ g
theorem after_any {w : World} {v u : Value} {a : WA} {m : List Bool} {x : Nat} (h : IsWA w w.heap.size v a) (hin : a.In) (hS : 0 ≤ a.states ∧ a.states ≤ 200000) (hM : Marks w w.heap.size u m) (hm : m.length = a.n) (hx : x < a.L) :
  Calls Tryz.prog 87 #[v, u, .int .i64 (x : Int)] w (Ret fun r w' => MR w (a.nf.after m x) r w') := by
 obtain ⟨A1, c1, A2, c2, A3, c3, rfl, h1, h2, h3, h4⟩ := h
 obtain ⟨gm, hgm, rfl, hBm⟩ := hM
 obtain ⟨n, hn⟩ := Int.eq_ofNat_of_zero_le hS.1
 have hn80 : n ≤ 200000 := by omega
 have han : a.n = n := by unfold WA.n; rw [hn]; rfl
 have hfin := hide (fun k (hk : a.edges.length ≤ k) => WA.afterE_all hin (m := m) hx hk)
 obtain ⟨w1, hw1, hb1, hB1, hk1⟩ := box_blk w #[.int .i64 a.letters, .int .i64 a.states, .slice A1 a.start.length c1, .slice A2 a.accept.length c2, .slice A3 a.edges.length c3] 28
 obtain ⟨g, w2, hmk, hbl, hb2, hg⟩ := mk_bools w1 n (by omega)
 have hs1 := hb1.size
 have hs2 := hb2.size
 have hc1 := hB1.cell
 have hB2 := hB1.below hb2
 have hc2 := hB2.cell
 rw [hn] at hw1 hc1 hc2 hB1 hB2 ⊢
 rw [marks_new] at hbl
 have hb02 := hide (hb1.trans (hb2.mono hs1))
 have hB2H := hide hB2
 have hl2 := hB2.lt
 have hl1 := hB1.lt
 have hblH := hide (show Blk w2 g 4 ((a.afterE m (x : Int) 0).map Value.bool).toArray from by rw [WA.afterE_zero, han]; exact hbl)
 have hBmH := hide hBm
 have h3H := hide h3
 have hinH := hide hin
 have hnH := hide hn
 have hanH := hide han
 have hmH := hide (hm.trans han)
 have l3 := h3.1
 obtain ⟨ne, hne⟩ : ∃ ne, ne = a.edges.length := ⟨_, rfl⟩
 have hneH := hide hne
 have hml := hm.trans han
 rw [← hne] at hw1 hc1 hc2 hB2H l3 ⊢
 rw [hml]
 clear h1 h2 h3 h4 hk1 hb1 hb2 hB1 hB2 hbl hBm hin hS hn han hm hne hx hml
 go_enter Tryz.func87, Tryz.ntmps87
 go_wp2_with fail
 go_loopw [8] (fun ii wr => ∃ (k : Nat), ii = .int .i64 (k : Int) ∧ k ≤ ne ∧ Hid (Blk wr g 4 ((a.afterE m (x : Int) k).map Value.bool).toArray) ∧ Hid (Kept w2 wr (fun k => k = g))) (fun ii _ => ne - (intOf ii).toNat)
 case atStart => exact ⟨0, rfl, Nat.zero_le _, hblH, Kept.refl _ _⟩
 case round =>
  obtain ⟨k, rfl, hk, hA, hK⟩ := hrel
  have hb1r := hide (hb02.out.trans (hK.out.below (B := w.heap.size) (by have := hb02.out.size; omega) (fun b hb e => by omega)))
  have hBr : Blk wr w.heap.size 28 _ := hB2H.out.kept hK.out (by omega)
  have hcr := hBr.cell
  by_cases hlt : k < ne
  ·obtain ⟨b, off, e, rfl, hbk, hxe, hc⟩ := h3H.out.at (k := k) (by rw [← hneH.out]; exact hlt)
   have hcc := fun j hj => (hb1r.out.cell (by exact hbk)).trans (hc j hj)
   have q0 := hcc 0 (by omega)
   have q1 := hcc 1 (by omega)
   have q2 := hcc 2 (by omega)
   simp only [Nat.add_zero, encE] at q0 q1 q2
   obtain ⟨i1, i2, i3⟩ := hinH.out.edge e (List.mem_of_getElem? hxe)
   rw [hnH.out] at i1 i3
   obtain ⟨f, hf, hfn⟩ := inN_nat i1
   obtain ⟨t, ht, htn⟩ := inN_nat i3
   simp only [Int.toNat_natCast] at hfn htn
   have hst := hide (WA.afterE_step (a := a) (m := m) (x := (x : Int)) hxe (by omega))
   obtain ⟨bf, hbf⟩ := get_lt (l := m) (i := f) (by rw [hmH.out]; exact hfn)
   have hcf : wr.cell? ⟨gm, f, none⟩ = some (.bool bf) := (hb1r.out.cell (by exact hgm)).trans (Marks.cell hBmH.out hbf)
   have hgf : Hid (m.getD e.frm.toNat false = bf) := by show _ = _; rw [hf, Int.toNat_natCast, getD_some hbf]
   have htt : Hid (e.to.toNat = t) := by show _ = _; rw [ht, Int.toNat_natCast]
   obtain ⟨bt, hbt⟩ := get_lt (l := a.afterE m (x : Int) k) (i := t) (by rw [WA.afterE_len, hanH.out]; exact htn)
   have hct : wr.cell? ⟨g, t, none⟩ = some (.bool bt) := Marks.cell hA.out hbt
   have hfr := hA.out.frozen t
   have hlr := hA.out.lt
   obtain ⟨x0, x1, x2⟩ := e
   dsimp only at *
   subst hf ht
   have hset : Hid (Blk (wr.setCell ⟨g, t, none⟩ (.bool true)) g 4 (((a.afterE m (x : Int) k).set t true).map Value.bool).toArray) := by
    have := hA.out.set_ t (.bool true)
    rw [marks_set] at this
    exact this
   have hK2 := hide (hK.out.setCell (p := ⟨g, t, none⟩) (fun _ => rfl) (.bool true))
   clear hxe hc hcc i1 i2 i3 hbf hbt hBr
   by_cases hyx : x1 = (x : Int)
   ·cases bf
    ·have hst2 : Hid (a.afterE m (x : Int) (k + 1) = a.afterE m (x : Int) k) := by show _ = _; rw [hst.out, hgf.out]; simp
     go_wp2_with fail
     exact ⟨⟨k + 1, by go_num, by omega, by rw [hst2.out]; exact hA, hK⟩, by simp [intOf]; omega⟩
    ·have hst2 : Hid (a.afterE m (x : Int) (k + 1) = (a.afterE m (x : Int) k).set t true) := by show _ = _; rw [hst.out, hgf.out, htt.out]; simp [hyx]
     go_wp2_with fail
     exact ⟨⟨k + 1, by go_num, by omega, by rw [hst2.out]; exact hset, hK2⟩, by simp [intOf]; omega⟩
   ·have hst2 : Hid (a.afterE m (x : Int) (k + 1) = a.afterE m (x : Int) k) := by show _ = _; rw [hst.out]; simp [hyx]
    go_wp2_with fail
    exact ⟨⟨k + 1, by go_num, by omega, by rw [hst2.out]; exact hA, hK⟩, by simp [intOf]; omega⟩
  ·have hfi := hide (hfin.out k (by have := hneH.out; omega))
   clear hBr
   go_wp2_with fail
   go_ret
   have hA2 := hA.out
   rw [hfi.out] at hA2
   refine ⟨hb1r.out, ⟨g, hA2.lt, by rw [NF.after_len, a.nf_n, hanH.out]; rfl, hA2⟩, fun g' hg' => ?_⟩
   simp [Value.ownBlock] at hg'
   omega
theorem meets_any {w : World} {B c : Nat} {u : Value} {A : Option Addr} {m : List Bool} {l : List Int} (hM : Marks w w.heap.size u m) (h : Sl w B 1 encI A l) (hin : ∀ x ∈ l, inN m.length x = true) :
  Calls Tryz.prog 89 #[u, .slice A l.length c] w fun e w' => e = .returned (.bool (l.any fun s => m.getD s.toNat false)) ∧ w = w' := by
 obtain ⟨gm, hgm, rfl, hBm⟩ := hM
 have hn := h.1
 have hBmH := hide hBm
 have hI := hide hin
 obtain ⟨n, hne⟩ : ∃ n, n = l.length := ⟨_, rfl⟩
 have hnH := hide hne
 obtain ⟨mm, hmm⟩ : ∃ mm, mm = m.length := ⟨_, rfl⟩
 have hmmH := hide hmm
 obtain ⟨p, hp⟩ : ∃ p : Int → Bool, p = fun s => m.getD s.toNat false := ⟨_, rfl⟩
 have hpe := hide (show ∀ s, p s = m.getD s.toNat false from fun s => by rw [hp])
 rw [← hne] at hn ⊢
 rw [← hmm, ← hp]
 clear hBm hin hne hmm hp
 go_enter Tryz.func89, Tryz.ntmps89
 go_wp2_with fail
 go_loop [5] (fun ii => ∃ (k : Nat), ii = .int .i64 (k : Int) ∧ k ≤ n ∧ Hid (∀ s ∈ l.take k, p s = false)) (fun ii => n - (intOf ii).toNat)
 case atStart => exact ⟨0, rfl, Nat.zero_le _, hide (by simp)⟩
 case round =>
  obtain ⟨k, rfl, hk, hE⟩ := hrel
  by_cases hlt : k < n
  ·obtain ⟨z, hz⟩ := get_lt (l := l) (i := k) (by rw [← hnH.out]; exact hlt)
   obtain ⟨q, rfl, hq⟩ := inN_nat (hI.out z (List.mem_of_getElem? hz))
   simp only [Int.toNat_natCast] at hq
   obtain ⟨b0, o0, rfl, -, hc⟩ := sl_intat h hz
   obtain ⟨b, hb⟩ := get_lt hq
   have hcb := Marks.cell hBmH.out hb
   have hgb : Hid (p (q : Int) = b) := by show _ = _; rw [hpe.out, Int.toNat_natCast, getD_some hb]
   have hqm : q < mm := by rw [hmmH.out]; exact hq
   have hzH := hide hz
   clear hb hz hq
   cases b
   ·have hE2 : Hid (∀ s ∈ l.take (k + 1), p s = false) := fun s hs => by
     rw [take_snoc hzH.out] at hs
     rcases List.mem_append.1 hs with hs | hs
     ·exact hE.out s hs
     ·rw [List.mem_singleton.1 hs]; exact hgb.out
    go_wp2_with fail
    exact ⟨⟨k + 1, by go_num, by omega, hE2⟩, by simp [intOf]; omega⟩
   ·have hA : Hid (l.any p = true) := List.any_eq_true.2 ⟨_, List.mem_of_getElem? hzH.out, hgb.out⟩
    go_wp2_with fail
    go_ret
    exact ⟨by rw [hA.out]; rfl, rfl⟩
  ·have hA : Hid (l.any p = false) := by
    have hta := hE.out
    rw [List.take_of_length_le (by have := hnH.out; omega)] at hta
    exact List.any_eq_false.2 fun s hs => by rw [hta s hs]; decide
   go_wp2_with fail
   go_ret
   exact ⟨by rw [hA.out]; rfl, rfl⟩
end Go.Proofs.YtakpmdmjbgipiaaGreatDoor
namespace Go.Proofs.YtakpmdmjbgipiaaGreatDoor
open Go.RowKit
section
variable {S : Type} [DecidableEq S] {L : Nat} {δ : S → Nat → S} {s0 : S}
theorem rowsG_lang {all : List S} (h : Disc L δ s0 all) (f : S → Bool) {w : List Nat} (hw : okW L w) : langT (rowsG L δ all all.length) (all.map f) w = f (runW δ s0 w) := by
 have hD := rowsG_dok (δ := δ) h (ac := all.map f) (by simp)
 have h1 := h.num hw
 have h2 : runW (dnx (rowsG L δ all all.length)) 0 w = runW (numW δ all) 0 w := by
  have := runW_congr (L := L) (n := all.length) (nx := dnx (rowsG L δ all all.length)) (nx' := numW δ all) (fun q x hq hx => by have := hD.lt (by simpa using hq) hx; simpa using this) (fun q x hq hx => (rowsG_num hq hx).symm) w 0 hw (by have := hD.pos; simpa using this)
  exact this.symm
 unfold langT
 rw [h2]
 unfold dac
 rw [getD_some (map_get h1)]
end
def dPr (t u : List (List Nat)) (p : Nat × Nat) (x : Nat) : Nat × Nat := (dnx t p.1 x, dnx u p.2 x)
def accPr (op : Bool → Bool → Bool) (ac bc : List Bool) (p : Nat × Nat) : Bool := op (dac ac p.1) (dac bc p.2)
theorem runPr (t u : List (List Nat)) : ∀ (w : List Nat) (p q : Nat), runW (dPr t u) (p, q) w = (runW (dnx t) p w, runW (dnx u) q w)
 | [], _, _ => rfl
 | x :: w, p, q => runPr t u w _ _
section
variable {L : Nat} {t u : List (List Nat)} {ac bc : List Bool} {all : List (Nat × Nat)} {op : Bool → Bool → Bool}
theorem pr_lang (h : Disc L (dPr t u) (0, 0) all) {w : List Nat} (hw : okW L w) : langT (rowsG L (dPr t u) all all.length) (all.map (accPr op ac bc)) w = op (langT t ac w) (langT u bc w) := by
 rw [rowsG_lang h _ hw, runPr]
 rfl
theorem pr_in (h : DOK L t ac) (h' : DOK L u bc) {i : Nat} (hE : Exp L (dPr t u) (0, 0) i all) {p : Nat × Nat} (hp : p ∈ all) : p.1 < ac.length ∧ p.2 < bc.length := by
 obtain ⟨w, hw, rfl⟩ := hE.inv.reach p hp
 rw [runPr]
 exact ⟨h.run hw, h'.run hw⟩
theorem pr_len (h : DOK L t ac) (h' : DOK L u bc) {i : Nat} (hE : Exp L (dPr t u) (0, 0) i all) : all.length ≤ ac.length * bc.length := by
 have hn : (all.map fun p => p.1 * bc.length + p.2).Nodup := by
  refine List.pairwise_map.2 (hE.inv.nodup.imp_of_mem fun {p q} hp hq hne he => hne ?_)
  obtain ⟨-, h2⟩ := pr_in h h' hE hp
  obtain ⟨-, h4⟩ := pr_in h h' hE hq
  have e1 : p.1 = q.1 := by
   have := congrArg (· / bc.length) he
   simp only [Nat.add_comm (_ * _), Nat.add_mul_div_right _ _ (show 0 < bc.length by omega), Nat.div_eq_of_lt h2, Nat.div_eq_of_lt h4] at this
   omega
  have e2 : p.2 = q.2 := by rw [e1] at he; omega
  exact Prod.ext e1 e2
 have := sub_len _ (List.range (ac.length * bc.length)) hn fun k hk => by
  obtain ⟨p, hp, rfl⟩ := List.mem_map.1 hk
  obtain ⟨h1, h2⟩ := pr_in h h' hE hp
  rw [List.mem_range]
  have : p.1 * bc.length + bc.length ≤ ac.length * bc.length := by
   rw [← Nat.succ_mul]
   exact Nat.mul_le_mul_right _ h1
  omega
 simpa using this
end
section
variable {L : Nat} {t : List (List Nat)} {ac : List Bool} {Λ : List Nat → Bool}
theorem CanT.compl (h : CanT L t ac Λ) : CanT L t (ac.map (!·)) fun w => !Λ w := by
 have ha : ∀ q, q < ac.length → dac (ac.map (!·)) q = !dac ac q := fun q hq => by
  obtain ⟨b, hb⟩ := get_lt hq
  unfold dac
  rw [getD_some (map_get hb), getD_some hb]
 refine ⟨⟨by rw [h.ok.len, List.length_map], by rw [List.length_map]; exact h.ok.pos, fun r hr => by rw [List.length_map]; exact h.ok.row r hr⟩, ?_⟩
 rw [List.length_map]
 refine ⟨fun w hw => ?_, fun u v hu hv hz => h.can.sep u v hu hv fun z hzz => ?_, h.can.ord⟩
 ·rw [ha _ (h.can.run_lt hw), h.can.lang w hw]
 ·have := hz z hzz
  simpa using this
end
end Go.Proofs.YtakpmdmjbgipiaaGreatDoor
namespace Go.Proofs.YtakpmdmjbgipiaaGreatDoor
open Go.RowKit
structure RepS (E : Nat → Nat → Prop) (i : Nat) (F nx : List Nat) : Prop where
 len : nx.length = i
 at_ : ∀ j v, nx[j]? = some v → ∃ f, F[v]? = some f ∧ E f j
 sep : ∀ (p q f g : Nat), p < q → F[p]? = some f → F[q]? = some g → ¬ E f g
 src : ∀ (p f : Nat), F[p]? = some f → f < i ∧ nx[f]? = some p
theorem RepS.start (E : Nat → Nat → Prop) : RepS E 0 [] [] := ⟨rfl, fun j v h => by simp at h, fun p q f g _ h => by simp at h, fun p f h => by simp at h⟩
theorem RepS.le {E : Nat → Nat → Prop} {i : Nat} {F nx : List Nat} (h : RepS E i F nx) : F.length ≤ i := by
 have hnd : F.Nodup := by
  refine List.pairwise_iff_getElem.2 fun p q hp hq hpq e => ?_
  have h1 := (h.src q _ (List.getElem?_eq_getElem hq)).2
  have h2 := (h.src p _ (List.getElem?_eq_getElem hp)).2
  rw [e, h1] at h2
  have := Option.some.inj h2
  omega
 have := sub_len F (List.range i) hnd (fun a ha => by
  obtain ⟨p, hp⟩ := List.mem_iff_getElem?.1 ha
  exact List.mem_range.2 (h.src p a hp).1)
 simpa using this
theorem snoc_get {D : Type} {l : List D} {x y : D} {j : Nat} (h : (l ++ [x])[j]? = some y) : l[j]? = some y ∨ j = l.length ∧ y = x := by
 by_cases hj : j < l.length
 ·rw [List.getElem?_append_left hj] at h
  exact .inl h
 ·have h1 := lt_of_get h
  simp at h1
  obtain rfl : j = l.length := by omega
  simp at h
  exact .inr ⟨rfl, h.symm⟩
theorem snoc_old {D : Type} {l : List D} {x y : D} {j : Nat} (h : l[j]? = some y) : (l ++ [x])[j]? = some y := by
 rw [List.getElem?_append_left (lt_of_get h)]
 exact h
theorem snoc_new {D : Type} (l : List D) (x : D) : (l ++ [x])[l.length]? = some x := by simp
theorem RepS.old {E : Nat → Nat → Prop} {i k f : Nat} {F nx : List Nat} (h : RepS E i F nx) (hk : F[k]? = some f) (hE : E f i) : RepS E (i + 1) F (nx ++ [k]) := by
 refine ⟨by simp [h.len], fun j v hj => ?_, h.sep, fun p g hp => ?_⟩
 ·rcases snoc_get hj with hj | ⟨rfl, rfl⟩
  ·exact h.at_ j v hj
  ·rw [h.len]; exact ⟨f, hk, hE⟩
 ·obtain ⟨h1, h2⟩ := h.src p g hp
  exact ⟨by omega, snoc_old h2⟩
theorem RepS.new {E : Nat → Nat → Prop} {i : Nat} {F nx : List Nat} (h : RepS E i F nx) (hE : E i i) (hn : ∀ (p f : Nat), F[p]? = some f → ¬ E f i) : RepS E (i + 1) (F ++ [i]) (nx ++ [F.length]) := by
 refine ⟨by simp [h.len], fun j v hj => ?_, fun p q f g hpq hp hq => ?_, fun p g hp => ?_⟩
 ·rcases snoc_get hj with hj | ⟨rfl, rfl⟩
  ·obtain ⟨f, h1, h2⟩ := h.at_ j v hj
   exact ⟨f, snoc_old h1, h2⟩
  ·rw [h.len]; exact ⟨i, snoc_new _ _, hE⟩
 ·rcases snoc_get hq with hq1 | ⟨e1, e2⟩
  ·rcases snoc_get hp with hp1 | ⟨e3, e4⟩
   ·exact h.sep p q f g hpq hp1 hq1
   ·have := lt_of_get hq1; omega
  ·rcases snoc_get hp with hp1 | ⟨e3, e4⟩
   ·rw [e2]; exact hn p f hp1
   ·omega
 ·rcases snoc_get hp with hp | ⟨rfl, rfl⟩
  ·obtain ⟨h1, h2⟩ := h.src p g hp
   exact ⟨by omega, snoc_old h2⟩
  ·refine ⟨by omega, ?_⟩
   rw [← h.len]; exact snoc_new _ _
section
variable {L n r : Nat} {nx : Nat → Nat → Nat} {acc : Nat → Bool} {cl os F : List Nat}
structure ClsI (L n : Nat) (nx : Nat → Nat → Nat) (acc : Nat → Bool) (r : Nat) (cl : List Nat) : Prop where
 len : cl.length = n
 iff : ∀ i j, i < n → j < n → (cl.getD i 0 = cl.getD j 0 ↔ EqW L nx acc r i j)
def AlikeW (L : Nat) (nx : Nat → Nat → Nat) (cl : List Nat) (a b : Nat) : Prop := cl.getD a 0 = cl.getD b 0 ∧ ∀ x, x < L → cl.getD (nx a x) 0 = cl.getD (nx b x) 0
theorem ClsI.alike (h : ClsI L n nx acc r cl) (hM : ∀ q x, q < n → x < L → nx q x < n) {a b : Nat} (ha : a < n) (hb : b < n) : AlikeW L nx cl a b ↔ EqW L nx acc (r + 1) a b := by
 show _ ∧ _ ↔ EqW L nx acc r a b ∧ _
 rw [h.iff a b ha hb]
 exact and_congr_right fun _ => forall_congr' fun x => forall_congr' fun hx => h.iff _ _ (hM a x ha hx) (hM b x hb hx)
theorem EqW.refl : ∀ r p, EqW L nx acc r p p
 | 0, _ => rfl
 | r + 1, p => ⟨EqW.refl r p, fun _ _ => EqW.refl r _⟩
theorem EqW.symm : ∀ (r : Nat) {p q : Nat}, EqW L nx acc r p q → EqW L nx acc r q p
 | 0, _, _, h => Eq.symm h
 | r + 1, _, _, h => ⟨EqW.symm r h.1, fun x hx => EqW.symm r (h.2 x hx)⟩
theorem EqW.trans : ∀ (r : Nat) {p q s : Nat}, EqW L nx acc r p q → EqW L nx acc r q s → EqW L nx acc r p s
 | 0, _, _, _, h, k => Eq.trans h k
 | r + 1, _, _, _, h, k => ⟨EqW.trans r h.1 k.1, fun x hx => EqW.trans r (h.2 x hx) (k.2 x hx)⟩
theorem RepS.cls {E : Nat → Nat → Prop} (h : RepS E n F os) (hE : ∀ i j, i < n → j < n → (E i j ↔ EqW L nx acc r i j)) : ClsI L n nx acc r os ∧ ∀ i, i < n → os.getD i 0 < n := by
 refine ⟨⟨h.len, fun i j hi hj => ?_⟩, fun i hi => ?_⟩
 ·obtain ⟨u, hu⟩ := get_lt (l := os) (i := i) (by rw [h.len]; exact hi)
  obtain ⟨v, hv⟩ := get_lt (l := os) (i := j) (by rw [h.len]; exact hj)
  rw [getD_some hu, getD_some hv]
  obtain ⟨f, hf, e1⟩ := h.at_ i u hu
  obtain ⟨g, hg, e2⟩ := h.at_ j v hv
  have hfn := (h.src u f hf).1
  have hgn := (h.src v g hg).1
  have e1 := (hE f i hfn hi).1 e1
  have e2 := (hE g j hgn hj).1 e2
  constructor
  ·rintro rfl
   rw [hf] at hg
   injection hg with hg
   subst hg
   exact EqW.trans r (EqW.symm r e1) e2
  ·intro e
   have h1 : EqW L nx acc r f g := EqW.trans r e1 (EqW.trans r e (EqW.symm r e2))
   rcases Nat.lt_trichotomy u v with hl | rfl | hl
   ·exact (h.sep u v f g hl hf hg ((hE f g hfn hgn).2 h1)).elim
   ·rfl
   ·exact (h.sep v u g f hl hg hf ((hE g f hgn hfn).2 (EqW.symm r h1))).elim
 ·obtain ⟨u, hu⟩ := get_lt (l := os) (i := i) (by rw [h.len]; exact hi)
  obtain ⟨f, hf, -⟩ := h.at_ i u hu
  rw [getD_some hu]
  have := lt_of_get hf
  have := h.le
  omega
theorem ClsI.norm (h : ClsI L n nx acc r cl) : ClsAt L n nx acc r (cRow cl) (dd cl).length := by
 refine ⟨by rw [cRow_len, h.len], fun i j hi hj => ?_, fun v => cRow_mem⟩
 obtain ⟨a, ha⟩ := get_lt (l := cl) (i := i) (by rw [h.len]; exact hi)
 obtain ⟨b, hb⟩ := get_lt (l := cl) (i := j) (by rw [h.len]; exact hj)
 rw [cRow_eq ha hb, ← h.iff i j hi hj, getD_some ha, getD_some hb]
theorem ClsI.grow (h : ClsI L n nx acc r cl) (h' : ClsI L n nx acc (r + 1) os) : (dd cl).length ≤ (dd os).length := h.norm.grow h'.norm
def EqD (L : Nat) (nx : Nat → Nat → Nat) (acc : Nat → Bool) (d : Int) (i j : Nat) : Prop := if d < 0 then ∀ r, EqW L nx acc r i j else EqW L nx acc d.toNat i j
structure ClsR (L n : Nat) (nx : Nat → Nat → Nat) (acc : Nat → Bool) (d : Int) (cl : List Nat) : Prop where
 len : cl.length = n
 iff : ∀ i j, i < n → j < n → (cl.getD i 0 = cl.getD j 0 ↔ EqD L nx acc d i j)
 le : ∀ i, i < n → cl.getD i 0 ≤ n
 lt : d < 0 → ∀ i, i < n → cl.getD i 0 < n
theorem ClsR.toW (h : ClsR L n nx acc (-1) cl) : ClsW L n nx acc cl := ⟨h.len, fun i j hi hj => by
 have := h.iff i j hi hj
 unfold EqD at this
 rwa [if_pos (by omega)] at this, h.lt (by omega)⟩
theorem ClsI.atDepth (h : ClsI L n nx acc r cl) (hle : ∀ i, i < n → cl.getD i 0 ≤ n) {d : Int} (hd : (r : Int) = d) : ClsR L n nx acc d cl := by
 refine ⟨h.len, fun i j hi hj => ?_, hle, fun h0 => by omega⟩
 unfold EqD
 rw [if_neg (by omega), ← hd]
 exact h.iff i j hi hj
theorem ClsI.atRest (hM : ∀ q x, q < n → x < L → nx q x < n) (h : ClsI L n nx acc r cl) (h' : ClsI L n nx acc (r + 1) os) (hlt : ∀ i, i < n → os.getD i 0 < n) (he : (dd os).length = (dd cl).length) {d : Int} (hd : d < 0 ∨ (r : Int) ≤ d) : ClsR L n nx acc d os := by
 have ha := h.norm
 have hb := h'.norm
 rw [he] at hb
 have hst := fun d {i j} => EqW.stable hM (fun i j hi hj he => ha.rest hb hi hj he) d (i := i) (j := j)
 refine ⟨h'.len, fun i j hi hj => (h'.iff i j hi hj).trans ?_, fun i hi => Nat.le_of_lt (hlt i hi), fun _ => hlt⟩
 unfold EqD
 by_cases h0 : d < 0
 ·rw [if_pos h0]
  exact ⟨fun e k => EqW.le (r := k) r (by rw [Nat.add_comm]; exact hst k hi hj e.1), fun e => e (r + 1)⟩
 ·rw [if_neg h0]
  obtain ⟨k, hk⟩ : ∃ k, d.toNat = r + k := ⟨d.toNat - r, by omega⟩
  rw [hk]
  exact ⟨fun e => hst k hi hj e.1, fun e => ha.rest hb hi hj (EqW.le k e)⟩
def clsA (ac : List Bool) : List Nat := ac.map fun b => if b = true then 1 else 0
theorem clsA_I (ac : List Bool) : ClsI L ac.length nx (dac ac) 0 (clsA ac) := by
 refine ⟨by simp [clsA], fun i j hi hj => ?_⟩
 obtain ⟨a, ha⟩ := get_lt hi
 obtain ⟨b, hb⟩ := get_lt hj
 have e1 : (clsA ac).getD i 0 = if a = true then 1 else 0 := getD_some (map_get (f := fun b : Bool => if b = true then 1 else 0) ha)
 have e2 : (clsA ac).getD j 0 = if b = true then 1 else 0 := getD_some (map_get (f := fun b : Bool => if b = true then 1 else 0) hb)
 show _ ↔ dac ac i = dac ac j
 have e3 : dac ac i = a := getD_some ha
 have e4 : dac ac j = b := getD_some hb
 rw [e1, e2, e3, e4]
 cases a <;> cases b <;> simp
theorem clsA_le (ac : List Bool) (i : Nat) : (clsA ac).getD i 0 ≤ 1 := by
 rw [List.getD_eq_getElem?_getD]
 cases h : (clsA ac)[i]? with
 | none => simp
 | some x =>
  simp only [Option.getD_some]
  obtain ⟨b, -, rfl⟩ := List.mem_map.1 (List.mem_of_getElem? h)
  split <;> omega
end
end Go.Proofs.YtakpmdmjbgipiaaGreatDoor
namespace Go.Proofs.YtakpmdmjbgipiaaGreatDoor
open Go.RowKit
theorem accI_ext {ac bc : List Bool} {i : Nat} (h : ac <+: bc) (hi : i ≤ ac.length) : accI bc i = accI ac i := by
 unfold accI
 congr 1
 refine List.filter_congr fun j hj => ?_
 have hj := List.mem_range.1 hj
 obtain ⟨b, hb⟩ := get_lt (l := ac) (i := j) (by omega)
 unfold dac
 rw [getD_some hb, getD_some (prefix_get h hb)]
theorem edgE_pre {L q : Nat} {t t' : List (List Nat)} (h : t <+: t') (hq : q ≤ t.length) : edgE L t' q = edgE L t q := by
 unfold edgE
 simp only [List.flatMap]
 congr 1
 refine List.map_congr_left fun j hj => ?_
 have hj := List.mem_range.1 hj
 obtain ⟨r, hr⟩ := get_lt (l := t) (i := j) (by omega)
 unfold rowE
 refine List.map_congr_left fun x _ => ?_
 unfold dnx
 rw [getD_some hr, getD_some (prefix_get h hr)]
section
variable {S : Type} [DecidableEq S] {L : Nat} {δ : S → Nat → S} {s0 : S}
def rowP (δ : S → Nat → S) (all : List S) (k : S) (i x : Nat) : List Edg := (List.range x).map fun y : Nat => ⟨(i : Int), (y : Int), (posL all (δ k y) : Int)⟩
theorem rowP_zero (all : List S) (k : S) (i : Nat) : rowP δ all k i 0 = [] := rfl
theorem rowP_len (all : List S) (k : S) (i x : Nat) : (rowP δ all k i x).length = x := by simp [rowP]
theorem rowP_succ (all : List S) (k : S) (i x : Nat) : rowP δ (rowL δ k all (x + 1)) k i (x + 1) = rowP δ (rowL δ k all x) k i x ++ [⟨(i : Int), (x : Int), (posL (rowL δ k all (x + 1)) (δ k x) : Int)⟩] := by
 unfold rowP
 rw [List.range_succ, List.map_append]
 congr 1
 refine List.map_congr_left fun y hy => ?_
 rw [posG_step (List.mem_range.1 hy)]
theorem rowP_done {all all' : List S} {i : Nat} {k : S} (h : Exp L δ s0 i all) (hp : all <+: all') (hk : all[i]? = some k) : edgE L (rowsG L δ all i) i ++ rowP δ all' k i L = edgE L (rowsG L δ all' (i + 1)) (i + 1) := by
 have hk' := prefix_get hp hk
 have hi := lt_of_get hk
 have hl := rowsG_len (L := L) (δ := δ) (all := all) (i := i) (by omega)
 rw [edgE_succ, rowsG_succ hk', rowsG_ext h hp, edgE_pre (List.prefix_append _ _) (by omega)]
 congr 1
 unfold rowP rowE
 refine List.map_congr_left fun x hx => ?_
 have hx := List.mem_range.1 hx
 have h1 : (rowsG L δ all i ++ [(List.range L).map fun x => posL all' (δ k x)])[i]? = some ((List.range L).map fun x => posL all' (δ k x)) := by
  rw [List.getElem?_append_right (by omega), hl]
  simp
 have h2 : ((List.range L).map fun x => posL all' (δ k x))[x]? = some (posL all' (δ k x)) := map_get (f := fun x => posL all' (δ k x)) (List.getElem?_range hx)
 unfold dnx
 rw [getD_some h1, getD_some h2]
end
theorem plainW_all (L : Nat) (t : List (List Nat)) (ac : List Bool) : (⟨(L : Int), (ac.length : Int), [0], accI ac ac.length, edgE L t ac.length⟩ : WA) = plainW L t ac := rfl
theorem posL_first {S : Type} [DecidableEq S] : ∀ {l : List S} {a : S} {k : Nat}, l[k]? = some a → (∀ j, j < k → l[j]? ≠ some a) → posL l a = k
 | [], _, _, h, _ => by simp at h
 | b :: l, a, 0, h, _ => by
  have : b = a := by simpa using h
  simp [posL, this]
 | b :: l, a, k + 1, h, hn => by
  have hb : b ≠ a := fun e => hn 0 (by omega) (by simp [e])
  have ih := posL_first (l := l) (a := a) (k := k) (by simpa using h) fun j hj => by
   have := hn (j + 1) (by omega)
   simpa using this
  unfold posL at ih ⊢
  rw [List.idxOf_cons, show (b == a) = false by simpa using hb, ih]
  rfl
theorem not_mem_first {S : Type} {l : List S} {a : S} (h : ∀ j, j < l.length → l[j]? ≠ some a) : a ∉ l := fun hm => by
 obtain ⟨j, hj⟩ := List.mem_iff_getElem?.1 hm
 exact h j (lt_of_get hj) hj
end Go.Proofs.YtakpmdmjbgipiaaGreatDoor
namespace Go.Proofs.YtakpmdmjbgipiaaGreatDoor
open Go.RowKit
set_option maxHeartbeats 16000000
set_option maxRecDepth 100000
theorem sameMarks_any {w : World} {B1 B2 S : Nat} {u1 u2 : Value} {m1 m2 : List Bool} (h1 : Marks w B1 u1 m1) (h2 : Marks w B2 u2 m2) (hl1 : m1.length = S) (hl2 : m2.length = S) (hS : S ≤ 300000) :
    Calls Tryz.prog 88 #[u1, u2] w (Ret fun v w' => v = .bool (decide (m1 = m2)) ∧ Below w.heap.size w w') := by
  obtain ⟨g1, hg1, rfl, hb1⟩ := h1
  obtain ⟨g2, hg2, rfl, hb2⟩ := h2
  rw [hl1, hl2]
  have hL1 := hide hl1
  have hL2 := hide hl2
  have hb1H := hide hb1
  have hb2H := hide hb2
  clear hl1 hl2 hb1 hb2
  go_enter Tryz.func88, Tryz.ntmps88
  go_wp2_with fail
  go_loopw [5] (fun ii wr => ∃ (i : Nat), ii = .int .i64 (i : Int) ∧ i ≤ S ∧ Below w.heap.size w wr ∧ Hid (∀ j, j < i → m1[j]? = m2[j]?)) (fun ii _ => S - (intOf ii).toNat)
  case atStart => exact ⟨0, rfl, Nat.zero_le _, Below.refl _ _, fun j hj => absurd hj (by omega)⟩
  case round =>
    obtain ⟨i, rfl, hi, hB, hE⟩ := hrel
    by_cases hlt : i < S
    · obtain ⟨b1, e1⟩ := get_lt (l := m1) (i := i) (by rw [hL1.out]; exact hlt)
      obtain ⟨b2, e2⟩ := get_lt (l := m2) (i := i) (by rw [hL2.out]; exact hlt)
      have hc1 := Marks.cell (hb1H.out.below hB) e1
      have hc2 := Marks.cell (hb2H.out.below hB) e2
      have hst := hide (hB.trans ((drewB wr).mono hB.size))
      have he1 := hide e1
      have he2 := hide e2
      clear e1 e2
      go_wp2_with fail
      refine Reg.cP [0, 0, 3, 7, 0, 0, 48, 112, 255] ?_
      cases b1 <;> cases b2
      all_goals
        go_wp2_with fail
        first
        | (refine ⟨⟨i + 1, by simp, by omega, hst.out, fun j hj => ?_⟩, by simp [intOf]; omega⟩
           by_cases hji : j = i
           · subst hji
             rw [he1.out, he2.out]
           · exact hE.out j (by omega))
        | (go_ret
           refine ⟨congrArg Value.bool (decide_eq_false fun e => ?_).symm, hst.out⟩
           have h1 := he1.out
           rw [e, he2.out] at h1
           cases h1)
    · go_wp2_with fail
      go_ret
      refine ⟨congrArg Value.bool (decide_eq_true (List.ext_getElem? fun j => ?_)).symm, hB⟩
      by_cases hj : j < S
      · exact hE.out j (by omega)
      · rw [List.getElem?_eq_none (by rw [hL1.out]; omega), List.getElem?_eq_none (by rw [hL2.out]; omega)]
def NumsAt (w : World) (g n : Nat) (xs : List Nat) : Prop := xs.length = n ∧ g < w.heap.size ∧ ∀ j y : Nat, xs[j]? = some y → w.cell? ⟨g, j, none⟩ = some (.int .i64 (y : Int))
theorem NumsAt.below {w w' : World} {g n : Nat} {xs : List Nat} (h : NumsAt w g n xs) (hb : Below w.heap.size w w') : NumsAt w' g n xs := ⟨h.1, by have := hb.size; have := h.2.1; omega, fun j y hj => (hb.cell (by exact h.2.1)).trans (h.2.2 j y hj)⟩
theorem NumsAt.sl {w : World} {g n : Nat} {xs : List Nat} (h : NumsAt w g n xs) (hn : n ≤ 4000000) : Sl w w.heap.size 1 encI (some ⟨g, 0, none⟩) (natL xs) := by
 obtain ⟨h1, h2, h3⟩ := h
 refine ⟨by simp [natL]; omega, fun _ => ⟨g, 0, rfl, h2, fun k d hd j hj => ?_⟩⟩
 obtain ⟨y, hy⟩ := get_lt (l := xs) (i := k) (by have := lt_of_get hd; simpa [natL] using this)
 have hdy : d = (y : Int) := by
  rw [natL, List.getElem?_map, hy] at hd
  exact (Option.some.inj hd).symm
 have hj0 : j = 0 := by omega
 subst hj0 hdy
 have := h3 k y hy
 simpa [encI] using this
theorem NumsAt.take {w : World} {g n k : Nat} {xs : List Nat} (h : NumsAt w g n xs) (hk : k ≤ n) : NumsAt w g k (xs.take k) := by
 refine ⟨by rw [List.length_take, h.1]; omega, h.2.1, fun j y hj => ?_⟩
 rw [List.getElem?_take] at hj
 split at hj
 ·exact h.2.2 j y hj
 ·cases hj
theorem NumsAt.of_blk {w : World} {g n : Nat} {xs : List Nat} (h : Blk w g 3 (fillC n xs)) (hl : xs.length = n) : NumsAt w g n xs := by
 refine ⟨hl, h.lt, fun j y hj => ?_⟩
 rw [h.cell]
 unfold fillC
 have h1 := lt_of_get hj
 rw [List.getElem?_toArray, List.getElem?_append_left (by simpa using h1), List.getElem?_map, hj]
 rfl
theorem dd_take {xs : List Nat} {k y : Nat} (h : xs[k]? = some y) : (dd (xs.take (k + 1))).length = (dd (xs.take k)).length + if y ∈ xs.take k then 0 else 1 := by
 rw [take_snoc h, dd_snoc]
 unfold meetL
 by_cases hm : y ∈ xs.take k
 ·rw [if_pos (mem_dd.2 hm), if_pos hm]
  rfl
 ·rw [if_neg (fun h => hm (mem_dd.1 h)), if_neg hm, List.length_append]
  rfl
theorem kinds_any {w : World} {g n c : Nat} {xs : List Nat} (h : NumsAt w g n xs) (hc : n ≤ c) (hn : n ≤ 300000) :
  Calls Tryz.prog 100 #[.slice (some ⟨g, 0, none⟩) n c] w (Ret fun v w' => v = .int .i64 ((dd xs).length : Int) ∧ Below w.heap.size w w') := by
 have hH := hide h
 have hlen := hide h.1
 clear h
 go_enter Tryz.func100, Tryz.ntmps100
 go_wp2_with fail
 go_loopw [3, 4] (fun nn ii wr => ∃ (k m : Nat), ii = .int .i64 (k : Int) ∧ k ≤ n ∧ nn = .int .i64 (m : Int) ∧ m ≤ k ∧ Hid (m = (dd (xs.take k)).length) ∧ Below w.heap.size w wr) (fun _ ii _ => n - (intOf ii).toNat)
 case atStart => exact ⟨0, 0, rfl, Nat.zero_le _, rfl, Nat.le_refl _, hide rfl, Below.refl _ _⟩
 case round =>
  obtain ⟨k, m, rfl, hk, rfl, hmk, hm, hB⟩ := hrel
  by_cases hlt : k < n
  ·obtain ⟨y, hy⟩ := get_lt (l := xs) (i := k) (by rw [hlen.out]; exact hlt)
   have hA := hH.out.below hB
   have hc1 := hA.2.2 k y hy
   have hdt := hide (dd_take hy)
   have hsl := (hA.take (k := k) (by omega)).sl (by omega)
   have hT : (natL (xs.take k)).length = k := by simp [natL]; have := hlen.out; omega
   have hHB := hide hB
   have hkc : k ≤ c := by omega
   have hhas : ∀ (b : Bool) (nn : Nat), decide (y ∈ xs.take k) = b → Calls Tryz.prog 92 #[.slice (some ⟨g, 0, none⟩) k c, .int .i64 (y : Int)] (wr.drewN nn) fun e w' => e = .returned (.bool b) ∧ w' = wr.drewN nn := fun b nn hb => by
    have := has_any (c := c) (y : Int) (hsl.keep (w' := wr.drewN nn) (fun p hp => ((Kept.refl wr (fun _ => False)).drewN nn).cell hp id) (Nat.le_refl _))
    rw [hT] at this
    refine this.mono fun e w' h => ⟨?_, h.2.symm⟩
    rw [h.1, ← hb]
    congr 2
    rw [decide_eq_decide]
    unfold natL
    rw [List.mem_map]
    constructor
    ·rintro ⟨z, hz, e⟩
     have : z = y := by omega
     rw [← this]; exact hz
    ·intro hz
     exact ⟨y, hz, rfl⟩
   have hhH := hide hhas
   clear hy hA hB hsl hT hhas
   by_cases hmm : y ∈ xs.take k
   ·have hd : Hid (decide (y ∈ xs.take k) = true) := decide_eq_true hmm
    have hs : Hid (m = (dd (xs.take (k + 1))).length) := by
     show _ = _
     rw [hdt.out, if_pos hmm, ← hm.out]
     rfl
    clear hmm
    go_wp2_with fail
    go_quiet ((go_at_call 92; exact Calls.quiet_of_same (hhH.out true _ hd.out)))
    go_wp2_with fail
    exact ⟨⟨k + 1, m, by go_num, by omega, rfl, by omega, hs, hHB.out.trans (((Kept.refl wr (fun _ => False)).drewN _).below hHB.out.size (fun _ _ h => h.elim))⟩, by simp [intOf]; omega⟩
   ·have hd : Hid (decide (y ∈ xs.take k) = false) := decide_eq_false hmm
    have hs : Hid (m + 1 = (dd (xs.take (k + 1))).length) := by
     show _ = _
     rw [hdt.out, if_neg hmm, ← hm.out]
    clear hmm
    go_wp2_with fail
    go_quiet ((go_at_call 92; exact Calls.quiet_of_same (hhH.out false _ hd.out)))
    go_wp2_with fail
    exact ⟨⟨k + 1, m + 1, by go_num, by omega, by go_num, by omega, hs, hHB.out.trans (((Kept.refl wr (fun _ => False)).drewN _).below hHB.out.size (fun _ _ h => h.elim))⟩, by simp [intOf]; omega⟩
  ·obtain rfl : k = n := by omega
   go_wp2_with fail
   go_ret
   refine ⟨?_, hB⟩
   have := hm.out
   rw [List.take_of_length_le (by rw [hlen.out]; exact Nat.le_refl _)] at this
   show Value.int .i64 (m : Int) = _
   rw [this]
structure TabF (w : World) (L n : Nat) (vN vA : Value) (t : List (List Nat)) (ac : List Bool) : Prop where
 rd : IsDF w w.heap.size (.agg #[vN, vA]) t ac
 ok : DOK L t ac
 n : ac.length = n
theorem TabF.below {w w' : World} {L n : Nat} {vN vA : Value} {t : List (List Nat)} {ac : List Bool} (h : TabF w L n vN vA t ac) (hb : Below w.heap.size w w') : TabF w' L n vN vA t ac := ⟨h.rd.keep (fun _ hp => hb.cell hp) hb.size, h.ok, h.n⟩
theorem TabF.at {w : World} {L n : Nat} {vN vA : Value} {t : List (List Nat)} {ac : List Bool} (h : TabF w L n vN vA t ac) : ∃ b off c, vN = .slice (some ⟨b, off, none⟩) n c ∧ b < w.heap.size ∧ ∀ q, q < n → ∃ A c', w.cell? ⟨b, off + q, none⟩ = some (.slice A L c') ∧ ∀ x, x < L → ∃ b2 o2, A = some ⟨b2, o2, none⟩ ∧ b2 < w.heap.size ∧ w.cell? ⟨b2, o2 + x, none⟩ = some (.int .i64 (dnx t q x : Int)) ∧ dnx t q x < n := by
 obtain ⟨A1, c1, A2, c2, e, h1, h2⟩ := h.rd
 injection e with e
 simp only [Array.mk.injEq, List.cons.injEq, and_true] at e
 obtain ⟨rfl, rfl⟩ := e
 have hp := h.ok.pos
 have hlt := h.ok.len
 have hn := h.n
 obtain ⟨r0, hr0⟩ := get_lt (l := t) (i := 0) (by omega)
 obtain ⟨b, off, v0, rfl, hb, -, -⟩ := h1.at hr0
 refine ⟨b, off, c1, by rw [hlt, hn], hb, fun q hq => ?_⟩
 obtain ⟨b', off', A, c', row, e, hb', hc, hrow, hrl, hrS, hrv⟩ := df_row h1 h.ok (q := q) (by omega)
 injection e with e
 injection e with e1 e2
 subst e1 e2
 refine ⟨A, c', hc, fun x hx => ?_⟩
 obtain ⟨y, hy⟩ := get_lt (l := row) (i := x) (by omega)
 obtain ⟨b2, o2, rfl, hb2, hc2⟩ := sl_natat hrS hy
 obtain ⟨h3, h4⟩ := hrv x y hy
 exact ⟨b2, o2, rfl, hb2, by rw [h4]; exact hc2, by omega⟩
theorem TabF.mark {w : World} {L n : Nat} {vN vA : Value} {t : List (List Nat)} {ac : List Bool} (h : TabF w L n vN vA t ac) : ∃ b off c, vA = .slice (some ⟨b, off, none⟩) n c ∧ b < w.heap.size ∧ ∀ q, q < n → w.cell? ⟨b, off + q, none⟩ = some (.bool (dac ac q)) := by
 obtain ⟨A1, c1, A2, c2, e, h1, h2⟩ := h.rd
 injection e with e
 simp only [Array.mk.injEq, List.cons.injEq, and_true] at e
 obtain ⟨rfl, rfl⟩ := e
 have hp := h.ok.pos
 have hn := h.n
 obtain ⟨b0, hb0⟩ := get_lt (l := ac) (i := 0) hp
 obtain ⟨b, off, rfl, hb, -⟩ := sl_boolat h2 hb0
 refine ⟨b, off, c2, by rw [hn], hb, fun q hq => ?_⟩
 obtain ⟨x, hx⟩ := get_lt (l := ac) (i := q) (by omega)
 obtain ⟨b', off', e, -, hc⟩ := sl_boolat h2 hx
 injection e with e
 injection e with e1 e2
 subst e1 e2
 rw [hc]
 unfold dac
 rw [getD_some hx]
theorem alike_any {w : World} {L n g c a b : Nat} {vN vA : Value} {t : List (List Nat)} {ac : List Bool} {cl : List Nat} (hT : TabF w L n vN vA t ac) (hC : NumsAt w g n cl) (ha : a < n) (hb : b < n) (hn : n ≤ 300000) (hL : L ≤ 8) :
  Calls Tryz.prog 99 #[.agg #[vN, vA], .slice (some ⟨g, 0, none⟩) n c, .int .i64 (L : Int), .int .i64 (a : Int), .int .i64 (b : Int)] w (Ret fun v w' => (∃ r : Bool, v = .bool r ∧ (r = true ↔ AlikeW L (dnx t) cl a b)) ∧ Below w.heap.size w w') := by
 obtain ⟨bA, oA, cA, rfl, -⟩ := hT.mark
 obtain ⟨bN, oN, cN, rfl, hbN, hrows⟩ := hT.at
 obtain ⟨w1, hw1, hb1, hB1, hk1⟩ := box_blk w #[.slice (some ⟨bN, oN, none⟩) n cN, .slice (some ⟨bA, oA, none⟩) n cA] 77
 have hs1 := hb1.size
 have hB1H := hide hB1
 have hrH := hide hrows
 have hCH := hide (hC.below hb1)
 have hlen := hide hC.1
 have hb1H := hide hb1
 obtain ⟨ka, hka⟩ := get_lt (l := cl) (i := a) (by rw [hC.1]; exact ha)
 obtain ⟨kb, hkb⟩ := get_lt (l := cl) (i := b) (by rw [hC.1]; exact hb)
 have hca := hCH.out.2.2 a ka hka
 have hcb := hCH.out.2.2 b kb hkb
 have hga : Hid (cl.getD a 0 = ka) := getD_some hka
 have hgb : Hid (cl.getD b 0 = kb) := getD_some hkb
 clear hka hkb hrows hC hb1 hB1 hk1 hT
 by_cases hab : ka = kb
 ·have habI : (ka : Int) = (kb : Int) := by omega
  have habH := hide hab
  clear hab
  go_enter Tryz.func99, Tryz.ntmps99
  go_wp2_with fail
  go_quiet (fail)
  go_wp2_with fail
  go_loopw [11] (fun ii wr => ∃ (x : Nat), ii = .int .i64 (x : Int) ∧ x ≤ L ∧ Below w1.heap.size w1 wr ∧ Hid (∀ y, y < x → cl.getD (dnx t a y) 0 = cl.getD (dnx t b y) 0)) (fun ii _ => L - (intOf ii).toNat)
  case atStart => exact ⟨0, rfl, Nat.zero_le _, ((Kept.refl w1 (fun _ => False)).drewN _).below (Nat.le_refl _) (fun _ _ h => h.elim), fun y hy => absurd hy (by omega)⟩
  case round =>
   obtain ⟨x, rfl, hx, hB, hE⟩ := hrel
   have hall := hide (hb1H.out.trans (hB.mono hs1))
   have hBH := hide hB
   by_cases hlt : x < L
   ·obtain ⟨Aa, ca', hr1, hra⟩ := hrH.out a ha
    obtain ⟨Ab, cb', hr2, hrb⟩ := hrH.out b hb
    obtain ⟨b1, o1, rfl, hb1', hx1, hy1⟩ := hra x hlt
    obtain ⟨b2, o2, rfl, hb2', hx2, hy2⟩ := hrb x hlt
    obtain ⟨z1, hz1⟩ := get_lt (l := cl) (i := dnx t a x) (by rw [hlen.out]; exact hy1)
    obtain ⟨z2, hz2⟩ := get_lt (l := cl) (i := dnx t b x) (by rw [hlen.out]; exact hy2)
    have c1 := (hB1H.out.below hB).cell
    have c2 := (hall.out.cell (p := ⟨bN, oN + a, none⟩) hbN).trans hr1
    have c3 := (hall.out.cell (p := ⟨bN, oN + b, none⟩) hbN).trans hr2
    have c4 := (hall.out.cell (p := ⟨b1, o1 + x, none⟩) hb1').trans hx1
    have c5 := (hall.out.cell (p := ⟨b2, o2 + x, none⟩) hb2').trans hx2
    have c6 := (hCH.out.below hB).2.2 _ z1 hz1
    have c7 := (hCH.out.below hB).2.2 _ z2 hz2
    have g1 : Hid (cl.getD (dnx t a x) 0 = z1) := getD_some hz1
    have g2 : Hid (cl.getD (dnx t b x) 0 = z2) := getD_some hz2
    obtain ⟨y1, hy1e⟩ : ∃ y1, y1 = dnx t a x := ⟨_, rfl⟩
    obtain ⟨y2, hy2e⟩ : ∃ y2, y2 = dnx t b x := ⟨_, rfl⟩
    rw [← hy1e] at c4 c6 hy1
    rw [← hy2e] at c5 c7 hy2
    clear hr1 hr2 hra hrb hx1 hx2 hz1 hz2 hy1e hy2e hB
    by_cases hzz : z1 = z2
    ·have hzI : (z1 : Int) = (z2 : Int) := by omega
     have hzH := hide hzz
     clear hzz
     go_wp2_with fail
     go_quiet (fail)
     go_wp2_with fail
     refine ⟨⟨x + 1, by go_num, by omega, hBH.out.trans (((Kept.refl wr (fun _ => False)).drewN _).below hBH.out.size (fun _ _ h => h.elim)), fun y hy => ?_⟩, by simp [intOf]; omega⟩
     by_cases e : y = x
     ·subst e
      rw [g1.out, g2.out, hzH.out]
     ·exact hE.out y (by omega)
    ·have hzI : ¬ (z1 : Int) = (z2 : Int) := by omega
     have hzH := hide hzz
     clear hzz
     go_wp2_with fail
     go_quiet (fail)
     go_wp2_with fail
     go_ret
     refine ⟨⟨false, rfl, ?_⟩, hall.out.trans (((Kept.refl wr (fun _ => False)).drewN _).below hall.out.size (fun _ _ h => h.elim))⟩
     constructor
     ·intro h; cases h
     ·intro h
      have := h.2 x hlt
      rw [g1.out, g2.out] at this
      exact (hzH.out this).elim
   ·go_wp2_with fail
    go_ret
    refine ⟨⟨true, rfl, ?_⟩, hall.out⟩
    constructor
    ·intro _
     exact ⟨by rw [hga.out, hgb.out, habH.out], fun y hy => hE.out y (by omega)⟩
    ·intro _; rfl
 ·have habI : ¬ (ka : Int) = (kb : Int) := by omega
  have habH := hide hab
  clear hab
  go_enter Tryz.func99, Tryz.ntmps99
  go_wp2_with fail
  go_quiet (fail)
  go_wp2_with fail
  go_ret
  refine ⟨⟨false, rfl, ?_⟩, hb1H.out.trans (((Kept.refl w1 (fun _ => False)).drewN _).below hs1 (fun _ _ h => h.elim))⟩
  constructor
  ·intro h; cases h
  ·intro h
   have := h.1
   rw [hga.out, hgb.out] at this
   exact (habH.out this).elim
end Go.Proofs.YtakpmdmjbgipiaaGreatDoor
namespace Go.Proofs.YtakpmdmjbgipiaaGreatDoor
open Go.RowKit
set_option maxHeartbeats 16000000
set_option maxRecDepth 100000
theorem fillC_zero {L : Nat} {row : List Nat} (h : row.length < L) : fillC L (row ++ [0]) = fillC L row := by
 have h1 := fillC_set h 0
 rw [← h1]
 apply Array.ext_getElem?
 intro j
 rw [Array.getElem?_setIfInBounds]
 by_cases e : row.length = j
 ·subst e
  rw [if_pos rfl, fillC_get h]
  have : row.length < (fillC L row).size := by simp [fillC]; omega
  rw [if_pos this]
  rfl
 ·rw [if_neg e]
structure ClX (w : World) (g3 L n gc : Nat) (vN vA : Value) (t : List (List Nat)) (ac : List Bool) (cl : List Nat) : Prop where
 t : TabF w L n vN vA t ac
 b : Blk w g3 77 #[vN, vA]
 c : Blk w gc 3 (fillC n cl)
 len : cl.length = n
theorem ClX.at {w w' : World} {g3 L n gc : Nat} {vN vA : Value} {t : List (List Nat)} {ac : List Bool} {cl : List Nat} (h : ClX w g3 L n gc vN vA t ac cl) (hb : Below w.heap.size w w') : ClX w' g3 L n gc vN vA t ac cl :=
 ⟨h.t.below hb, h.b.below hb, h.c.below hb, h.len⟩
theorem ClX.alike {w : World} {g3 L n gc c a b : Nat} {vN vA : Value} {t : List (List Nat)} {ac : List Bool} {cl : List Nat} (h : ClX w g3 L n gc vN vA t ac cl) (hn : n ≤ 300000) (hL : L ≤ 8) (ha : a < n) (hb : b < n) :
  Calls Tryz.prog 99 #[.agg #[vN, vA], .slice (some ⟨gc, 0, none⟩) n c, .int .i64 (L : Int), .int .i64 (a : Int), .int .i64 (b : Int)] w (Ret fun v w' => (∃ r : Bool, v = .bool r ∧ (r = true ↔ AlikeW L (dnx t) cl a b)) ∧ Below w.heap.size w w') :=
 alike_any h.t (NumsAt.of_blk h.c h.len) ha hb hn hL
theorem cl_k {wB w : World} {base g3 L n gc cc cf i : Nat} {A : Option Addr} {vN vA : Value} {t : List (List Nat)} {ac : List Bool} {cl F : List Nat} (hX : ClX wB g3 L n gc vN vA t ac cl) (hn : n ≤ 300000) (hL : L ≤ 8) (hi : i < n)
    (hB : Below wB.heap.size wB w) (hF : w.ownsRow base 3 1 (.slice A F.length cf) F.length (F.map encN)) (hFn : ∀ f ∈ F, f < n) (hFl : F.length ≤ 300000)
    {u0 u2 u4 u5 u6 u7 u9 u10 u11 u15 u16 u17 u18 u19 u20 u21 u22 u23 u24 u25 u26 u27 u28 u29 u30 u31 u32 u33 u34 u35 u36 u37 u38 u39 u40 u41 u42 u43 u44 u45 u46 u47 u48 u49 u50 u51 u52 u53 u54 u55 u56 u57 u58 u59 u60 u61 u62 u63 u64 u65 u66 u67 u68 u69 u70 u71 u72 u73 u74 u75 u76 u77 u78 u79 u80 u81 u82 u83 u84 u85 u86 : Value}
    {Q : Exit → Act → World → Prop} (hN : Reg.NoQ Q)
    (hQ : ∀ (x49 x50 x51 x52 x53 x54 x55 x56 x57 x58 x59 x60 x61 x62 x63 x64 x65 x66 : Value) (w' : World) (k : Nat), Below w.heap.size w w' → k ≤ F.length → (∀ p f, p < k → F[p]? = some f → ¬ AlikeW L (dnx t) cl f i) → (∀ f, F[k]? = some f → AlikeW L (dnx t) cl f i) →
      Q (.exit 6) ⟨List.toArray (u0 :: (.int .i64 L) :: u2 :: (.pointer (some ⟨g3, 0, none⟩)) :: u4 :: u5 :: u6 :: u7 :: (.slice (some ⟨gc, 0, none⟩) n cc) :: u9 :: u10 :: u11 :: (.slice A F.length cf) :: (.int .i64 i) :: (.int .i64 k) :: u15 :: u16 :: u17 :: u18 :: u19 :: u20 :: u21 :: u22 ::
      u23 :: u24 :: u25 :: u26 :: u27 :: u28 :: u29 :: u30 :: u31 :: u32 :: u33 :: u34 :: u35 :: u36 :: u37 :: u38 :: u39 :: u40 :: u41 :: u42 :: u43 :: u44 :: u45 :: u46 :: u47 :: u48 :: x49 :: x50 :: x51 :: x52 :: x53 :: x54 :: x55 :: x56 :: x57 :: x58 :: x59 ::
      x60 :: x61 :: x62 :: x63 :: x64 :: x65 :: x66 :: u67 :: u68 :: u69 :: u70 :: u71 :: u72 :: u73 :: u74 :: u75 :: u76 :: u77 :: u78 :: u79 :: u80 :: u81 :: u82 :: u83 :: u84 :: u85 :: u86 :: []), []⟩ w') :
    (Code.loop (loopBody Tryz.f90 3)).wp Tryz.prog Q ⟨List.toArray (u0 :: (.int .i64 L) :: u2 :: (.pointer (some ⟨g3, 0, none⟩)) :: u4 :: u5 :: u6 :: u7 :: (.slice (some ⟨gc, 0, none⟩) n cc) :: u9 :: u10 :: u11 :: (.slice A F.length cf) :: (.int .i64 i) :: (.int .i64 0) :: u15 :: u16 :: u17 :: u18 :: u19 :: u20 :: u21 :: u22 ::
      u23 :: u24 :: u25 :: u26 :: u27 :: u28 :: u29 :: u30 :: u31 :: u32 :: u33 :: u34 :: u35 :: u36 :: u37 :: u38 :: u39 :: u40 :: u41 :: u42 :: u43 :: u44 :: u45 :: u46 :: u47 :: u48 :: u49 :: u50 :: u51 :: u52 :: u53 :: u54 :: u55 :: u56 :: u57 :: u58 :: u59 ::
      u60 :: u61 :: u62 :: u63 :: u64 :: u65 :: u66 :: u67 :: u68 :: u69 :: u70 :: u71 :: u72 :: u73 :: u74 :: u75 :: u76 :: u77 :: u78 :: u79 :: u80 :: u81 :: u82 :: u83 :: u84 :: u85 :: u86 :: []), []⟩ w := by
  conv => arg 2; arg 1; whnf
  go_loopw [14] (fun kk wr => ∃ (k : Nat), kk = .int .i64 (k : Int) ∧ k ≤ F.length ∧ Below w.heap.size w wr ∧ Hid (∀ (p f : Nat), p < k → F[p]? = some f → ¬ AlikeW L (dnx t) cl f i)) (fun kk _ => F.length - (intOf kk).toNat)
  case atStart => exact ⟨0, rfl, Nat.zero_le _, Below.refl _ _, fun p f h => absurd h (by omega)⟩
  case round =>
    obtain ⟨k, rfl, hk, hBr, hE⟩ := hrel
    have hBB := hide (hB.trans (hBr.mono hB.size))
    have hc2 := (hX.at hBB.out).b.cell
    have hBrH := hide hBr
    have hst := hide (hBr.trans ((drewB wr).mono hBr.size))
    obtain ⟨vs, hvs⟩ : ∃ vs : Nat, vs = 0 := ⟨_, rfl⟩
    obtain ⟨bA, oA, cA, hvA, -⟩ := hX.t.mark
    obtain ⟨bN, oN, cN, hvN, -⟩ := hX.t.at
    by_cases hlt : k < F.length
    · obtain ⟨f, hf⟩ := get_lt hlt
      have hfn := hFn f (List.mem_of_getElem? hf)
      obtain ⟨gf, cf', hv, hcf⟩ := own_get ((Kept.of_below hBr (fun _ => False)).ownsRow hF (fun _ _ => id)) (map_get (f := encN) hf)
      injection hv with hv hv2 hv3
      subst hv hv3
      simp only [encN] at hcf
      have hfH := hide hf
      have hXd := hide (hX.at (hBB.out.trans ((drewB wr).mono hBB.out.size)))
      subst hvA hvN
      clear hf hBr hv2 hvs
      go_wp2_with fail
      refine Reg.cP [0, 0, 2, 7, 15, 31, 31, 31, 31, 31, 799, 1823, 31, 8191, 16383, 32767] ?_ (by kernel_rfl) (by repeat (first | exact hN | refine Reg.NoQ.then ?_ | refine Reg.NoQ.inBlock ?_))
      go_wp2_with (go_at_call 99; refine Calls.ret (hXd.out.alike hn hL hfn hi) ?_; rintro r w4 ⟨⟨b, rfl, hb⟩, hb4⟩; have hbH := hide hb; have hb44 := hide (hst.out.trans (hb4.mono hst.out.size)); clear hb hb4; cases b)
      · exact ⟨⟨k + 1, by go_num, by omega, hb44.out, fun p g hp hg => by
          by_cases e : p = k
          · subst e
            rw [hfH.out] at hg
            injection hg with hg
            subst hg
            exact fun h => by have := hbH.out.2 h; cases this
          · exact hE.out p g (by omega) hg⟩, by simp [intOf]; omega⟩
      · exact hQ _ _ _ _ _ _ _ _ _ _ _ _ _ _ _ _ _ _ w4 k hb44.out hk hE.out (fun g hg => by
          rw [hfH.out] at hg
          injection hg with hg
          subst hg
          exact hbH.out.1 (by trivial))
    · obtain rfl : k = F.length := by omega
      subst hvA hvN
      clear hvs
      go_wp2_with fail
      refine Reg.cP [0, 0, 2, 7, 15, 31, 31, 31, 31, 31, 799, 1823, 31, 8191, 16383, 32767] ?_ (by kernel_rfl) (by repeat (first | exact hN | refine Reg.NoQ.then ?_ | refine Reg.NoQ.inBlock ?_))
      go_wp2_with fail
      exact hQ _ _ _ _ _ _ _ _ _ _ _ _ _ _ _ _ _ _ _ F.length hst.out (Nat.le_refl _) hE.out (fun f hf => by have := lt_of_get hf; omega)
structure ClRd (wB wr : World) (E : Nat → Nat → Prop) (n gn i : Nat) (vf : Value) (F nx : List Nat) : Prop where
 below : Below wB.heap.size wB wr
 next : Blk wr gn 3 (fillC n nx)
 first : wr.ownsRow (gn + 1) 3 1 vf F.length (F.map encN)
 hgn : wB.heap.size ≤ gn
 rep : Hid (RepS E i F nx)
theorem ClRd.call {wB wr w4 : World} {E : Nat → Nat → Prop} {n gn i : Nat} {vf : Value} {F nx : List Nat} (h : ClRd wB wr E n gn i vf F nx) (hb : Below wr.heap.size wr w4) : ClRd wB w4 E n gn i vf F nx :=
 ⟨h.below.trans (hb.mono h.below.size), h.next.below hb, (Kept.of_below hb (fun _ => False)).ownsRow h.first (fun _ _ => id), h.hgn, h.rep⟩
theorem AlikeW.refl {L : Nat} {nx : Nat → Nat → Nat} {cl : List Nat} (i : Nat) : AlikeW L nx cl i i := ⟨rfl, fun _ _ => rfl⟩
theorem cl_i {wB w : World} {g3 L n gc cc gn : Nat} {vN vA : Value} {t : List (List Nat)} {ac : List Bool} {cl : List Nat} (hX : ClX wB g3 L n gc vN vA t ac cl) (hn : n ≤ 300000) (hL : L ≤ 8)
    (hI : ClRd wB w (AlikeW L (dnx t) cl) n gn 0 (.slice none 0 0) [] [])
    {u0 u2 u4 u5 u6 u9 u10 u14 u15 u16 u17 u18 u19 u20 u21 u22 u23 u24 u25 u26 u27 u28 u29 u30 u31 u32 u33 u34 u35 u36 u37 u38 u39 u40 u41 u42 u43 u44 u45 u46 u47 u48 u49 u50 u51 u52 u53 u54 u55 u56 u57 u58 u59 u60 u61 u62 u63 u64 u65 u66 u67 u68 u69 u70 u71 u72 u73 u74 u75 u76 u77 u78 u79 u80 u81 u82 u83 u84 u85 u86 : Value}
    {Q : Exit → Act → World → Prop} (hN : Reg.NoQ Q)
    (hQ : ∀ (x12 x13 x14 x44 x45 x46 x47 x48 x49 x50 x51 x52 x53 x54 x55 x56 x57 x58 x59 x60 x61 x62 x63 x64 x65 x66 x67 x68 x69 x70 x71 x72 x73 x74 x75 x76 x77 x78 : Value) (w' : World) (vf : Value) (F nx : List Nat), ClRd wB w' (AlikeW L (dnx t) cl) n gn n vf F nx →
      Q (.exit 4) ⟨List.toArray (u0 :: (.int .i64 L) :: u2 :: (.pointer (some ⟨g3, 0, none⟩)) :: u4 :: u5 :: u6 :: (.int .i64 n) :: (.slice (some ⟨gc, 0, none⟩) n cc) :: u9 :: u10 :: (.slice (some ⟨gn, 0, none⟩) n n) :: x12 :: x13 :: x14 :: u15 :: u16 :: u17 :: u18 :: u19 :: u20 :: u21 :: u22 ::
      u23 :: u24 :: u25 :: u26 :: u27 :: u28 :: u29 :: u30 :: u31 :: u32 :: u33 :: u34 :: u35 :: u36 :: u37 :: u38 :: u39 :: u40 :: u41 :: u42 :: u43 :: x44 :: x45 :: x46 :: x47 :: x48 :: x49 :: x50 :: x51 :: x52 :: x53 :: x54 :: x55 :: x56 :: x57 :: x58 :: x59 ::
      x60 :: x61 :: x62 :: x63 :: x64 :: x65 :: x66 :: x67 :: x68 :: x69 :: x70 :: x71 :: x72 :: x73 :: x74 :: x75 :: x76 :: x77 :: x78 :: u79 :: u80 :: u81 :: u82 :: u83 :: u84 :: u85 :: u86 :: []), []⟩ w') :
    (Code.loop (loopBody Tryz.f90 2)).wp Tryz.prog Q ⟨List.toArray (u0 :: (.int .i64 L) :: u2 :: (.pointer (some ⟨g3, 0, none⟩)) :: u4 :: u5 :: u6 :: (.int .i64 n) :: (.slice (some ⟨gc, 0, none⟩) n cc) :: u9 :: u10 :: (.slice (some ⟨gn, 0, none⟩) n n) :: (.slice none 0 0) :: (.int .i64 0) :: u14 :: u15 :: u16 :: u17 :: u18 ::
      u19 :: u20 :: u21 :: u22 :: u23 :: u24 :: u25 :: u26 :: u27 :: u28 :: u29 :: u30 :: u31 :: u32 :: u33 :: u34 :: u35 :: u36 :: u37 :: u38 :: u39 :: u40 :: u41 :: u42 :: u43 :: u44 :: u45 :: u46 :: u47 :: u48 :: u49 :: u50 :: u51 :: u52 :: u53 :: u54 :: u55 ::
      u56 :: u57 :: u58 :: u59 :: u60 :: u61 :: u62 :: u63 :: u64 :: u65 :: u66 :: u67 :: u68 :: u69 :: u70 :: u71 :: u72 :: u73 :: u74 :: u75 :: u76 :: u77 :: u78 :: u79 :: u80 :: u81 :: u82 :: u83 :: u84 :: u85 :: u86 :: []), []⟩ w := by
  conv => arg 2; arg 1; whnf
  go_loopw [12, 13] (fun ff ii wr => ∃ (i : Nat) (F nx : List Nat), ii = .int .i64 (i : Int) ∧ i ≤ n ∧ ClRd wB wr (AlikeW L (dnx t) cl) n gn i ff F nx) (fun _ ii _ => n - (intOf ii).toNat)
  case atStart => exact ⟨0, [], [], rfl, Nat.zero_le _, hI⟩
  case round =>
    obtain ⟨i, F, nx, rfl, hi, hR⟩ := hrel
    obtain ⟨A, cf, rfl⟩ := slice_of_own hR.first
    have hRH := hide hR
    have hFl := hR.rep.out.le
    clear hR
    by_cases hlt : i < n
    · have hFn := hide (fun (f : Nat) (hf : f ∈ F) => show f < n from by
        obtain ⟨p, hp⟩ := List.mem_iff_getElem?.1 hf
        have := (hRH.out.rep.out.src p f hp).1
        omega)
      go_wp2_with fail
      refine cl_k hX hn hL hlt hRH.out.below hRH.out.first hFn.out (by omega) ?_ ?_
      · repeat (first | exact hN | refine Reg.NoQ.then ?_ | refine Reg.NoQ.inBlock ?_)
      · iterate 18 (intro _)
        intro w3 k hb3 hk hno hyes
        have hR3 := hide (hRH.out.call hb3)
        have hnxl := hR3.out.rep.out.len
        have hnH := hide hno
        have hyH := hide hyes
        have hfg := hR3.out.next.frozen i
        have hlg := hR3.out.next.lt
        have hcg : w3.cell? ⟨gn, i, none⟩ = some (.int .i64 0) := by
          rw [hR3.out.next.cell, ← hnxl]
          exact fillC_get (by omega)
        have hnlH := hide hnxl
        clear hno hyes hnxl
        by_cases hkl : k < F.length
        · have hne : ((k : Int) == (F.length : Int)) = false := by simp; omega
          go_wp2_with fail
          obtain ⟨f, hf⟩ := get_lt hkl
          have hks : Kept w3 (w3.setCell ⟨gn, i, none⟩ (.int .i64 (k : Int))) (fun b => b = gn) := (Kept.refl w3 (fun b => b = gn)).setCell (p := ⟨gn, i, none⟩) (fun _ => rfl) _
          refine ⟨⟨i + 1, F, nx ++ [k], by go_num, by omega, ⟨?_, ?_, ?_, hR3.out.hgn, hR3.out.rep.out.old hf (hyH.out f hf)⟩⟩, by simp [intOf]; omega⟩
          · exact hR3.out.below.trans (hks.below hR3.out.below.size fun b hb e => by have := hR3.out.hgn; omega)
          · have := hR3.out.next.set_ i (.int .i64 (k : Int))
            rw [← hnlH.out, fillC_set (by have := hnlH.out; omega)] at this
            rw [← hnlH.out]
            exact this
          · exact hks.ownsRow hR3.out.first fun b hb e => by have := own_base hR3.out.first hb; omega
        · obtain rfl : k = F.length := by omega
          have heq : ((F.length : Int) == (F.length : Int)) = true := by simp
          have hf3 := hR3.out.first
          have hs3 := hlg
          clear hcg hfg hlg
          go_wp2_with (at_builtin; refine wpList_app_new row3 rfl _ _ rfl (gn + 1) (.slice A F.length cf) F.length _ rfl hf3 [.int .i64 (i : Int)] 1 rfl rfl (by simp [Value.oneCell']) (by omega) (by omega) ?_; intro g5 cap5 w5 hown5 hk5 hmv5 hg5
                       have hne5 : ¬ (Value.slice A F.length cf).ownBlock = some gn := fun e => by have := own_base hf3 e; omega
                       have hn5 := hR3.out.next.kept hk5 hne5
                       have hcg : w5.cell? ⟨gn, i, none⟩ = some (.int .i64 0) := (by rw [hn5.cell, ← hnlH.out]; exact fillC_get (by have := hnlH.out; omega))
                       have hfg := hn5.frozen i
                       have hlg := hn5.lt
                       have hnn5 := hide hn5
                       have hkk5 := hide hk5
                       have hoo5 := hide hown5
                       clear hn5 hk5 hown5 hmv5 hg5 hne5)
          have hks : Kept w5 (w5.setCell ⟨gn, i, none⟩ (.int .i64 (F.length : Int))) (fun b => b = gn) := (Kept.refl w5 (fun b => b = gn)).setCell (p := ⟨gn, i, none⟩) (fun _ => rfl) _
          refine ⟨⟨i + 1, F ++ [i], nx ++ [F.length], by go_num, by omega, ⟨?_, ?_, ?_, hR3.out.hgn, hR3.out.rep.out.new (AlikeW.refl i) fun p f hp => hnH.out p f (lt_of_get hp) hp⟩⟩, by simp [intOf]; omega⟩
          · have h1 := hR3.out.hgn
            have h2 := hR3.out.below.size
            exact (hR3.out.below.trans (hkk5.out.below h2 fun b hb e => by have := own_base hf3 e; omega)).trans (hks.below (by have := hkk5.out.size; omega) fun b hb e => by omega)
          · have := hnn5.out.set_ i (.int .i64 (F.length : Int))
            rw [← hnlH.out, fillC_set (by have := hnlH.out; omega)] at this
            rw [← hnlH.out]
            exact this
          · have := hks.ownsRow hoo5.out fun b hb e => by have := own_base hoo5.out hb; omega
            simpa [encN] using this
    · obtain rfl : i = n := by omega
      go_wp2_with fail
      exact hQ _ _ _ _ _ _ _ _ _ _ _ _ _ _ _ _ _ _ _ _ _ _ _ _ _ _ _ _ _ _ _ _ _ _ _ _ _ _ wr _ F nx hRH.out
end Go.Proofs.YtakpmdmjbgipiaaGreatDoor
namespace Go.Proofs.YtakpmdmjbgipiaaGreatDoor
open Go.RowKit
set_option maxHeartbeats 16000000
set_option maxRecDepth 100000
theorem cl_first {w0 w : World} {g3 L n gc : Nat} {vN vA : Value} {t : List (List Nat)} {ac : List Bool} (hT : TabF w0 L n vN vA t ac) (hb3 : Blk w0 g3 77 #[vN, vA]) (hn : n ≤ 300000)
  (hB : Below w0.heap.size w0 w) (hC : Blk w gc 3 (fillC n [])) (hgc : w0.heap.size ≤ gc)
  {u0 u1 u2 u4 u5 u6 u10 u11 u12 u13 u14 u15 u16 u17 u18 u19 u20 u21 u22 u23 u24 u25 u26 u27 u28 u29 u30 u31 u32 u33 u34 u35 u36 u37 u38 u39 u40 u41 u42 u43 u44 u45 u46 u47 u48 u49 u50 u51 u52 u53 u54 u55 u56 u57 u58 u59 u60 u61 u62 u63 u64 u65 u66 u67 u68 u69 u70 u71 u72 u73 u74 u75 u76 u77 u78 u79 u80 u81 u82 u83 u84 u85 u86 : Value}
  {Q : Exit → Act → World → Prop}
  (hQ : ∀ (x9 x20 x21 x22 x23 x24 x25 x26 x27 x28 x29 x30 x31 x32 : Value) (w' : World), Below w0.heap.size w0 w' → Blk w' gc 3 (fillC n (clsA ac)) →
   Q (.exit 0) ⟨List.toArray (u0 :: u1 :: u2 :: (.pointer (some ⟨g3, 0, none⟩)) :: u4 :: u5 :: u6 :: (.int .i64 n) :: (.slice (some ⟨gc, 0, none⟩) n n) :: x9 :: u10 :: u11 :: u12 :: u13 :: u14 :: u15 :: u16 :: u17 :: u18 :: u19 :: x20 :: x21 :: x22 :: x23 :: x24 :: x25 :: x26 :: x27 :: x28 ::
   x29 :: x30 :: x31 :: x32 :: u33 :: u34 :: u35 :: u36 :: u37 :: u38 :: u39 :: u40 :: u41 :: u42 :: u43 :: u44 :: u45 :: u46 :: u47 :: u48 :: u49 :: u50 :: u51 :: u52 :: u53 :: u54 :: u55 :: u56 :: u57 :: u58 :: u59 :: u60 :: u61 :: u62 :: u63 :: u64 :: u65 ::
   u66 :: u67 :: u68 :: u69 :: u70 :: u71 :: u72 :: u73 :: u74 :: u75 :: u76 :: u77 :: u78 :: u79 :: u80 :: u81 :: u82 :: u83 :: u84 :: u85 :: u86 :: []), []⟩ w') :
  (Code.loop (loopBody Tryz.f90 0)).wp Tryz.prog Q ⟨List.toArray (u0 :: u1 :: u2 :: (.pointer (some ⟨g3, 0, none⟩)) :: u4 :: u5 :: u6 :: (.int .i64 n) :: (.slice (some ⟨gc, 0, none⟩) n n) :: (.int .i64 0) :: u10 :: u11 :: u12 :: u13 :: u14 :: u15 :: u16 :: u17 :: u18 :: u19 :: u20 :: u21 :: u22 :: u23 :: u24 :: u25 :: u26 ::
   u27 :: u28 :: u29 :: u30 :: u31 :: u32 :: u33 :: u34 :: u35 :: u36 :: u37 :: u38 :: u39 :: u40 :: u41 :: u42 :: u43 :: u44 :: u45 :: u46 :: u47 :: u48 :: u49 :: u50 :: u51 :: u52 :: u53 :: u54 :: u55 :: u56 :: u57 :: u58 :: u59 :: u60 :: u61 :: u62 :: u63 ::
   u64 :: u65 :: u66 :: u67 :: u68 :: u69 :: u70 :: u71 :: u72 :: u73 :: u74 :: u75 :: u76 :: u77 :: u78 :: u79 :: u80 :: u81 :: u82 :: u83 :: u84 :: u85 :: u86 :: []), []⟩ w := by
 conv => arg 2; arg 1; whnf
 obtain ⟨bN, oN, cN, rfl, -⟩ := hT.at
 obtain ⟨bA, oA, cA, rfl, hbA, hac⟩ := hT.mark
 have haH := hide hac
 have hacn := hide hT.n
 clear hac hT
 go_loopw [9] (fun ii wr => ∃ (k : Nat) (row : List Nat), ii = .int .i64 (k : Int) ∧ k ≤ n ∧ Below w0.heap.size w0 wr ∧ Blk wr gc 3 (fillC n row) ∧ Hid (row = (clsA ac).take k) ∧ row.length ≤ k ∧ k ≤ row.length) (fun ii _ => n - (intOf ii).toNat)
 case atStart => exact ⟨0, [], rfl, Nat.zero_le _, hB, hC, by show _ = _; simp, by simp, by simp⟩
 case round =>
  obtain ⟨k, row, rfl, hk, hB', hou, hrow, hr1, hr2⟩ := hrel
  obtain rfl : k = row.length := by omega
  have hc2 := (hb3.below hB').cell
  by_cases hlt : row.length < n
  ·obtain ⟨b, hb⟩ := get_lt (l := ac) (i := row.length) (by rw [hacn.out]; exact hlt)
   have hca := (hB'.cell (p := ⟨bA, oA + row.length, none⟩) hbA).trans (haH.out row.length hlt)
   have hmb : dac ac row.length = b := getD_some hb
   rw [hmb] at hca
   have hnx := hide (map_get (f := fun b : Bool => if b = true then 1 else 0) hb)
   have hcg : wr.cell? ⟨gc, row.length, none⟩ = some (.int .i64 0) := by rw [hou.cell]; exact fillC_get hlt
   have hfg := hou.frozen row.length
   have hgl := hou.lt
   have hsn := hide (take_snoc hnx.out)
   clear hb hmb
   cases b
   ·go_wp2_with fail
    refine ⟨⟨row.length + 1, row ++ [0], by simp, by omega, hB', by rw [fillC_zero hlt]; exact hou, ?_, by simp, by simp⟩, by simp [intOf]; omega⟩
    show _ = _
    exact (congrArg (· ++ [0]) hrow.out).trans hsn.out.symm
   ·go_wp2_with fail
    have hou2 := hou.set_ row.length (.int .i64 (1 : Nat))
    rw [fillC_set hlt] at hou2
    refine ⟨⟨row.length + 1, row ++ [1], by simp, by omega, hB'.setCell (by simp; omega) _, hou2, ?_, by simp, by simp⟩, by simp [intOf]; omega⟩
    show _ = _
    exact (congrArg (· ++ [1]) hrow.out).trans hsn.out.symm
  ·have e : row.length = n := by omega
   have he := hide e
   clear e
   go_wp2_with fail
   refine hQ _ _ _ _ _ _ _ _ _ _ _ _ _ _ wr hB' ?_
   have h1 := hrow.out
   rw [List.take_of_length_le (by have := hacn.out; simp [clsA]; omega)] at h1
   rw [← h1]
   exact hou
theorem kinds_at {w : World} {g n c : Nat} {xs : List Nat} (hl : xs.length = n) (h : Blk w g 3 (fillC n xs)) (hc : n ≤ c) (hn : n ≤ 300000) :
  Calls Tryz.prog 100 #[.slice (some ⟨g, 0, none⟩) n c] w (Ret fun v w' => v = .int .i64 ((dd xs).length : Int) ∧ Below w.heap.size w w') := kinds_any (NumsAt.of_blk h hl) hc hn
theorem cl_rounds {w0 w : World} {g3 L n gc : Nat} {d : Int} {vN vA : Value} {t : List (List Nat)} {ac : List Bool} {cl : List Nat} (hX : ClX w g3 L n gc vN vA t ac cl) (hn : n ≤ 200000) (hn1 : 1 ≤ n) (hL : L ≤ 8)
  (hB : Below w0.heap.size w0 w) (hgc : w0.heap.size ≤ gc) (hC : ClsI L n (dnx t) (dac ac) 0 cl) (hle : ∀ i, i < n → cl.getD i 0 ≤ n) (hd : d < 0 ∨ 0 ≤ d)
  {u0 u4 u5 u6 u9 u11 u12 u13 u14 u15 u16 u17 u18 u19 u20 u21 u22 u23 u24 u25 u26 u27 u28 u29 u30 u31 u32 u33 u34 u35 u36 u37 u38 u39 u40 u41 u42 u43 u44 u45 u46 u47 u48 u49 u50 u51 u52 u53 u54 u55 u56 u57 u58 u59 u60 u61 u62 u63 u64 u65 u66 u67 u68 u69 u70 u71 u72 u73 u74 u75 u76 u77 u78 u79 u80 u81 u82 u83 u84 u85 u86 : Value}
  {Q : Exit → Act → World → Prop} (hN : Reg.NoQ Q)
  (hQ : ∀ (x6 x10 x11 x12 x13 x14 x33 x34 x35 x36 x37 x38 x39 x40 x41 x42 x43 x44 x45 x46 x47 x48 x49 x50 x51 x52 x53 x54 x55 x56 x57 x58 x59 x60 x61 x62 x63 x64 x65 x66 x67 x68 x69 x70 x71 x72 x73 x74 x75 x76 x77 x78 x79 x80 x81 x82 x83 x84 x85 : Value) (w' : World) (g : Nat) (cl' : List Nat), Below w0.heap.size w0 w' → w0.heap.size ≤ g → Blk w' g 3 (fillC n cl') → ClsR L n (dnx t) (dac ac) d cl' →
   Q (.exit 2) ⟨List.toArray (u0 :: (.int .i64 L) :: (.int .i64 d) :: (.pointer (some ⟨g3, 0, none⟩)) :: u4 :: u5 :: x6 :: (.int .i64 n) :: (.slice (some ⟨g, 0, none⟩) n n) :: u9 :: x10 :: x11 :: x12 :: x13 :: x14 :: u15 :: u16 :: u17 :: u18 :: u19 :: u20 :: u21 :: u22 :: u23 :: u24 :: u25 ::
   u26 :: u27 :: u28 :: u29 :: u30 :: u31 :: u32 :: x33 :: x34 :: x35 :: x36 :: x37 :: x38 :: x39 :: x40 :: x41 :: x42 :: x43 :: x44 :: x45 :: x46 :: x47 :: x48 :: x49 :: x50 :: x51 :: x52 :: x53 :: x54 :: x55 :: x56 :: x57 :: x58 :: x59 :: x60 :: x61 :: x62 ::
   x63 :: x64 :: x65 :: x66 :: x67 :: x68 :: x69 :: x70 :: x71 :: x72 :: x73 :: x74 :: x75 :: x76 :: x77 :: x78 :: x79 :: x80 :: x81 :: x82 :: x83 :: x84 :: x85 :: u86 :: []), []⟩ w')
  (hQr : ∀ (x8 x10 x11 x12 x13 x14 x33 x34 x35 x36 x37 x38 x39 x40 x41 x42 x43 x44 x45 x46 x47 x48 x49 x50 x51 x52 x53 x54 x55 x56 x57 x58 x59 x60 x61 x62 x63 x64 x65 x66 x67 x68 x69 x70 x71 x72 x73 x74 x75 x76 x77 x78 x79 x80 x81 x82 x83 x84 x85 : Value) (w' : World) (g : Nat) (cl' : List Nat), Below w0.heap.size w0 w' → w0.heap.size ≤ g → Blk w' g 3 (fillC n cl') → ClsR L n (dnx t) (dac ac) d cl' →
   Q .ret ⟨List.toArray (u0 :: (.int .i64 L) :: (.int .i64 d) :: (.pointer (some ⟨g3, 0, none⟩)) :: u4 :: u5 :: (.slice (some ⟨g, 0, none⟩) n n) :: (.int .i64 n) :: x8 :: u9 :: x10 :: x11 :: x12 :: x13 :: x14 :: u15 :: u16 :: u17 :: u18 :: u19 :: u20 :: u21 :: u22 :: u23 :: u24 :: u25 ::
   u26 :: u27 :: u28 :: u29 :: u30 :: u31 :: u32 :: x33 :: x34 :: x35 :: x36 :: x37 :: x38 :: x39 :: x40 :: x41 :: x42 :: x43 :: x44 :: x45 :: x46 :: x47 :: x48 :: x49 :: x50 :: x51 :: x52 :: x53 :: x54 :: x55 :: x56 :: x57 :: x58 :: x59 :: x60 :: x61 :: x62 ::
   x63 :: x64 :: x65 :: x66 :: x67 :: x68 :: x69 :: x70 :: x71 :: x72 :: x73 :: x74 :: x75 :: x76 :: x77 :: x78 :: x79 :: x80 :: x81 :: x82 :: x83 :: x84 :: x85 :: u86 :: []), []⟩ w') :
  (Code.loop (loopBody Tryz.f90 1)).wp Tryz.prog Q ⟨List.toArray (u0 :: (.int .i64 L) :: (.int .i64 d) :: (.pointer (some ⟨g3, 0, none⟩)) :: u4 :: u5 :: u6 :: (.int .i64 n) :: (.slice (some ⟨gc, 0, none⟩) n n) :: u9 :: (.int .i64 0) :: u11 :: u12 :: u13 :: u14 :: u15 :: u16 :: u17 :: u18 :: u19 :: u20 :: u21 :: u22 :: u23 ::
   u24 :: u25 :: u26 :: u27 :: u28 :: u29 :: u30 :: u31 :: u32 :: u33 :: u34 :: u35 :: u36 :: u37 :: u38 :: u39 :: u40 :: u41 :: u42 :: u43 :: u44 :: u45 :: u46 :: u47 :: u48 :: u49 :: u50 :: u51 :: u52 :: u53 :: u54 :: u55 :: u56 :: u57 :: u58 :: u59 :: u60 ::
   u61 :: u62 :: u63 :: u64 :: u65 :: u66 :: u67 :: u68 :: u69 :: u70 :: u71 :: u72 :: u73 :: u74 :: u75 :: u76 :: u77 :: u78 :: u79 :: u80 :: u81 :: u82 :: u83 :: u84 :: u85 :: u86 :: []), []⟩ w := by
 conv => arg 2; arg 1; whnf
 have hMH := hide (fun q x (hq : q < n) (hx : x < L) => show dnx t q x < n from by
  have := hX.t.ok.lt (q := q) (by have := hX.t.n; omega) hx
  have h2 := hX.t.n
  omega)
 go_loopw [8, 10] (fun vv rr wr => ∃ (r g : Nat) (l : List Nat), vv = .slice (some ⟨g, 0, none⟩) n n ∧ rr = .int .i64 (r : Int) ∧ ClX wr g3 L n g vN vA t ac l ∧ Below w0.heap.size w0 wr ∧ w0.heap.size ≤ g ∧
  Hid (ClsI L n (dnx t) (dac ac) r l) ∧ Hid (∀ i, i < n → l.getD i 0 ≤ n) ∧ (d < 0 ∨ (r : Int) ≤ d) ∧ r + 1 ≤ (dd l).length ∧ (dd l).length ≤ n) (fun _ rr _ => n - (intOf rr).toNat)
 case atStart =>
  have ha := hC.norm
  exact ⟨0, gc, cl, rfl, rfl, hX, hB, hgc, hC, hle, hd, by have := ha.val (i := 0) hn1; omega, ha.le⟩
 case round =>
  obtain ⟨r, g, l, rfl, rfl, hX', hB', hg', hCC, hll, hrd, hk1, hk2⟩ := hrel
  by_cases hcont : d < 0 ∨ (r : Int) < d
  ·obtain ⟨gn, w1, hmk, hR, hb1, hgn⟩ := mk_ints wr n (by omega)
   rw [fillC_nil] at hR
   have hI0 := hide (show ClRd wr w1 (AlikeW L (dnx t) l) n gn 0 (.slice none 0 0) [] [] from ⟨hb1, hR, own_nil, hgn, RepS.start _⟩)
   have hXH := hide hX'
   clear hR hb1 hX' hX
   have hor : d < 0 ∨ ¬ d < 0 ∧ (r : Int) < d := by omega
   have hrdH := hide hrd
   clear hcont hrd
   rcases hor with h1 | ⟨h1, h2⟩
   all_goals
    go_wp2_with fail
    refine cl_i hXH.out (by omega) hL hI0.out ?_ ?_
    ·repeat (first | exact hN | refine Reg.NoQ.then ?_ | refine Reg.NoQ.inBlock ?_)
    ·iterate 38 (intro _)
     intro w3 vf F nx hI3
     have hrep : RepS (EqW L (dnx t) (dac ac) (r + 1)) n F nx := by
      obtain ⟨q1, q2, q3, q4⟩ := hI3.rep.out
      have hF : ∀ (p f : Nat), F[p]? = some f → f < n := fun p f hp => (q4 p f hp).1
      refine ⟨q1, fun j v hj => ?_, fun p q f g' hpq hp hq => ?_, q4⟩
      ·obtain ⟨f, hf, he⟩ := q2 j v hj
       exact ⟨f, hf, (hCC.out.alike hMH.out (hF v f hf) (by have := lt_of_get hj; omega)).1 he⟩
      ·exact fun he => q3 p q f g' hpq hp hq ((hCC.out.alike hMH.out (hF p f hp) (hF q g' hq)).2 he)
     have hC3 := hide (hrep.cls (L := L) (nx := dnx t) (acc := dac ac) (r := r + 1) fun i j _ _ => Iff.rfl)
     have hIH := hide hI3
     have hnl := hide hrep.len
     have hx3 := hide (hXH.out.at hI3.below)
     have hs3 := hI3.below.size
     have hgrow := hide (hCC.out.grow hC3.out.1)
     have hval : Hid (∀ i, i < n → nx.getD i 0 ≤ n) := fun i hi => by
      have := hC3.out.2 i hi
      omega
     have hkn : (dd nx).length ≤ n := hC3.out.1.norm.le
     clear hrep hI3
     by_cases hke : (dd nx).length = (dd l).length
     ·have hkH := hide hke
      have hkb : (((dd nx).length : Int) == ((dd l).length : Int)) = true := by rw [hke]; simp
      clear hke
      generalize hk3 : (dd nx).length = K3 at *
      generalize hk4 : (dd l).length = K4 at *
      have hk33 := hide hk3
      have hk44 := hide hk4
      clear hk3 hk4
      go_wp2_with (go_at_call 100; first
       | (with_reducible refine Calls.ret (kinds_at hnl.out hIH.out.next (Nat.le_refl _) (by omega)) ?_; rintro v w4 ⟨rfl, hb4⟩; rw [hk33.out]; have hI4 := hide (hIH.out.call hb4); have hx4 := hide (hx3.out.at hb4); clear hb4)
       | (with_reducible refine Calls.ret (kinds_at hx4.out.len hx4.out.c (Nat.le_refl _) (by omega)) ?_; rintro v w5 ⟨rfl, hb5⟩; rw [hk44.out]; have hI5 := hide (hI4.out.call hb5); clear hb5))
      have e := hkH.out
      exact hQr _ _ _ _ _ _ _ _ _ _ _ _ _ _ _ _ _ _ _ _ _ _ _ _ _ _ _ _ _ _ _ _ _ _ _ _ _ _ _ _ _ _ _ _ _ _ _ _ _ _ _ _ _ _ _ _ _ _ _ w5 gn nx (hB'.trans (hI5.out.below.mono hB'.size)) (by have := hB'.size; omega) hI5.out.next (hCC.out.atRest hMH.out hC3.out.1 hC3.out.2 (by rw [hk33.out, hk44.out]; exact e) hrdH.out)
     ·have hgr : (dd l).length < (dd nx).length := by have := hgrow.out; omega
      have hkb : (((dd nx).length : Int) == ((dd l).length : Int)) = false := by simp; omega
      clear hke
      generalize hk3 : (dd nx).length = K3 at *
      generalize hk4 : (dd l).length = K4 at *
      have hk33 := hide hk3
      have hk44 := hide hk4
      clear hk3 hk4
      go_wp2_with (go_at_call 100; first
       | (with_reducible refine Calls.ret (kinds_at hnl.out hIH.out.next (Nat.le_refl _) (by omega)) ?_; rintro v w4 ⟨rfl, hb4⟩; rw [hk33.out]; have hI4 := hide (hIH.out.call hb4); have hx4 := hide (hx3.out.at hb4); clear hb4)
       | (with_reducible refine Calls.ret (kinds_at hx4.out.len hx4.out.c (Nat.le_refl _) (by omega)) ?_; rintro v w5 ⟨rfl, hb5⟩; rw [hk44.out]; have hI5 := hide (hI4.out.call hb5); have hx5 := hide (hx4.out.at hb5); clear hb5))
      refine ⟨⟨r + 1, gn, nx, rfl, by go_num, ⟨hx5.out.t, hx5.out.b, hI5.out.next, hnl.out⟩, hB'.trans (hI5.out.below.mono hB'.size), by have := hB'.size; omega, hC3.out.1, hval.out, by omega, by rw [hk33.out]; omega, by rw [hk33.out]; omega⟩, by simp [intOf]; omega⟩
  ·have h0 : ¬ d < 0 := by omega
   have e : (r : Int) = d := by omega
   have hcl := hide (hCC.out.atDepth hll.out e)
   have h1 : ¬ (r : Int) < d := by omega
   have hXH := hide hX'
   clear e hcont hX' hX hrd
   go_wp2_with fail
   exact hQ _ _ _ _ _ _ _ _ _ _ _ _ _ _ _ _ _ _ _ _ _ _ _ _ _ _ _ _ _ _ _ _ _ _ _ _ _ _ _ _ _ _ _ _ _ _ _ _ _ _ _ _ _ _ _ _ _ _ _ wr g l hB' hg' hXH.out.c hcl.out
theorem refclasses_any {w : World} {L n : Nat} {d : Int} {vN vA : Value} {t : List (List Nat)} {ac : List Bool} (hT : TabF w L n vN vA t ac) (hn : n ≤ 200000) (hL : L ≤ 8) :
  Calls Tryz.prog 90 #[.agg #[vN, vA], .int .i64 (L : Int), .int .i64 d] w (Ret fun v w' => Below w.heap.size w w' ∧ ∃ (g : Nat) (cl : List Nat), v = .slice (some ⟨g, 0, none⟩) n n ∧ w.heap.size ≤ g ∧ Blk w' g 3 (fillC n cl) ∧ ClsR L n (dnx t) (dac ac) d cl) := by
 obtain ⟨bN, oN, cN, rfl, -⟩ := hT.at
 obtain ⟨bA, oA, cA, rfl, -⟩ := hT.mark
 have hn1 : 1 ≤ n := by have := hT.ok.pos; have := hT.n; omega
 have hacn := hide hT.n
 obtain ⟨w1, hw1, hb1, hB1, hk1⟩ := box_blk w #[.slice (some ⟨bN, oN, none⟩) n cN, .slice (some ⟨bA, oA, none⟩) n cA] 77
 obtain ⟨gc, w2, hmk, hR, hb2, hgc⟩ := mk_ints w1 n (by omega)
 rw [fillC_nil] at hR
 have hsz1 := hb1.size
 have hsz2 := hb2.size
 have hT1 := hide (hT.below hb1)
 have hRH := hide hR
 have hb22 := hide hb2
 have hc1 := hB1.cell
 clear hT hR hb2
 go_enter Tryz.func90, Tryz.ntmps90
 go_wp2_with fail
 refine cl_first hT1.out hB1 (by omega) hb22.out hRH.out hgc ?_
 iterate 14 (intro _)
 intro w3 hb3 hC3
 have hX3 : ClX w3 w.heap.size L n gc (.slice (some ⟨bN, oN, none⟩) n cN) (.slice (some ⟨bA, oA, none⟩) n cA) t ac (clsA ac) := ⟨hT1.out.below hb3, hB1.below hb3, hC3, by rw [← hacn.out]; simp [clsA]⟩
 have hXH := hide hX3
 have hb33 := hide hb3
 clear hX3 hb3 hC3 hc1
 go_wp2_with fail
 refine cl_rounds hXH.out (by omega) hn1 hL hb33.out hgc (by rw [← hacn.out]; exact clsA_I ac) (fun i _ => Nat.le_trans (clsA_le ac i) hn1) (by omega) ?_ ?_ ?_
 ·repeat (first | exact Reg.NoQ.body (fun _ _ h => h) (fun _ h => h) | refine Reg.NoQ.then ?_ | refine Reg.NoQ.inBlock ?_)
 ·iterate 59 (intro _)
  intro w4 g cl4 hb4 hg hC4 hD4
  have hbH := hide hb4
  have hCH := hide hC4
  have hDH := hide hD4
  clear hb4 hC4 hD4
  go_wp2_with fail
  go_ret
  exact ⟨hb1.trans (hbH.out.mono hsz1), g, cl4, rfl, by omega, hCH.out, hDH.out⟩
 ·iterate 59 (intro _)
  intro w4 g cl4 hb4 hg hC4 hD4
  have hbH := hide hb4
  have hCH := hide hC4
  have hDH := hide hD4
  clear hb4 hC4 hD4
  go_wp2_with fail
  go_ret
  exact ⟨hb1.trans (hbH.out.mono hsz1), g, cl4, rfl, by omega, hCH.out, hDH.out⟩
end Go.Proofs.YtakpmdmjbgipiaaGreatDoor
namespace Go.Proofs.YtakpmdmjbgipiaaGreatDoor
open Go.RowKit
set_option maxHeartbeats 16000000
set_option maxRecDepth 100000
structure CnM (w0 wr : World) (g6 gs L : Nat) (vO vC vE : Value) (st : List Nat) (as' : List Int) (es : List Edg) : Prop where
 below : Below w0.heap.size w0 wr
 b6 : Blk wr g6 28 #[.int .i64 (L : Int), .int .i64 0, .slice (some ⟨gs, 0, none⟩) 1 1, vC, vE]
 start : Blk wr gs 3 #[.int .i64 0]
 ord : wr.ownsRow w0.heap.size 3 1 vO st.length ((natL st).map (Value.int .i64))
 acc : wr.ownsRow w0.heap.size 3 1 vC as'.length (as'.map (Value.int .i64))
 eds : wr.ownsRow w0.heap.size 65 3 vE es.length (es.flatMap eC)
 sepC : vC.ownBlock ≠ some gs
 sepO : vO.ownBlock ≠ some gs
 sep : ∀ g, vO.ownBlock = some g → vC.ownBlock ≠ some g
 ge : w0.heap.size ≤ g6 ∧ w0.heap.size ≤ gs
section
variable {w0 wr w' : World} {g6 gs L : Nat} {vO vC vE : Value} {st : List Nat} {as' : List Int} {es : List Edg}
theorem CnM.keep (h : CnM w0 wr g6 gs L vO vC vE st as' es) (hb : Below wr.heap.size wr w') : CnM w0 w' g6 gs L vO vC vE st as' es :=
 ⟨h.below.trans (hb.mono h.below.size), h.b6.below hb, h.start.below hb, own_below h.ord hb, own_below h.acc hb, own_below h.eds hb, h.sepC, h.sepO, h.sep, h.ge⟩
theorem moved_ne {v v' : Value} {g : Nat} (hmv : Moved wr v v') (hg : g < wr.heap.size) (h : v.ownBlock ≠ some g) : v'.ownBlock ≠ some g := fun e => by
 rcases hmv with hh | ⟨g', hh, hlt⟩
 ·exact h (by rw [← hh]; exact e)
 ·rw [e] at hh
  have := Option.some.inj hh
  omega
theorem CnM.addO {s : Nat} {vO' : Value} {w1 : World} (h : CnM w0 wr g6 gs L vO vC vE st as' es) (hk1 : Kept wr w1 (fun k => vO.ownBlock = some k)) (ho : w1.ownsRow w0.heap.size 3 1 vO' (st.length + 1) ((natL st).map (Value.int .i64) ++ [.int .i64 (s : Int)])) (hmv : Moved wr vO vO') :
  CnM w0 w1 g6 gs L vO' vC vE (st ++ [s]) as' es := by
 have hty : ∀ {e : TypeId}, e ≠ 3 → ∀ g cs, vO.ownBlock = some g → ¬ Blk wr g e cs := fun h1 g cs e1 hB => own_blk_ne h.ord hB (fun hh => h1 hh.symm) e1
 refine ⟨h.below.trans (hk1.below h.below.size fun b hb e => by have := own_base h.ord e; omega), h.b6.kept hk1 fun x => hty (by decide) _ _ x h.b6, h.start.kept hk1 h.sepO, ?_, hk1.ownsRow h.acc fun g hg e => h.sep g e hg, own_ty hk1 h.eds (hty (by decide)), h.sepC, moved_ne hmv h.start.lt h.sepO, fun g hg hg' => ?_, h.ge⟩
 ·rw [List.length_append, natL_snoc, List.map_append]
  exact ho
 ·exact moved_ne hmv (own_lt h.acc hg') (fun e => h.sep g e hg') hg
theorem CnM.addA {q : Int} {vC' : Value} {w1 : World} (h : CnM w0 wr g6 gs L vO vC vE st as' es) (hk1 : Kept wr w1 (fun k => vC.ownBlock = some k)) (ho : w1.ownsRow w0.heap.size 3 1 vC' (as'.length + 1) (as'.map (Value.int .i64) ++ [.int .i64 q])) (hmv : Moved wr vC vC') :
  CnM w0 (w1.setCell ⟨g6, 3, none⟩ vC') g6 gs L vO vC' vE st (as' ++ [q]) es := by
 have n6 := h.b6.kept hk1 (own_blk_ne h.acc h.b6 (by decide))
 have hk2 := (Kept.refl w1 (fun k => k = g6)).setCell (p := ⟨g6, 3, none⟩) (fun _ => rfl) vC'
 have hall : Kept wr (w1.setCell ⟨g6, 3, none⟩ vC') (fun k => vC.ownBlock = some k ∨ k = g6) := (hk1.mono fun _ _ e => .inl e).trans hk2 fun _ _ e => .inr e
 have hty : ∀ {e : TypeId}, e ≠ 3 → e ≠ 28 → ∀ g cs, (vC.ownBlock = some g ∨ g = g6) → ¬ Blk wr g e cs := by
  rintro e h1 h2 g cs (e1 | e1) hB
  ·exact own_blk_ne h.acc hB (fun hh => h1 hh.symm) e1
  ·exact hB.ne_ h.b6 h2 e1
 have h6o : ∀ g, vO.ownBlock = some g → g ≠ g6 := fun g hg e => own_blk_ne h.ord h.b6 (by decide) (by rw [hg, e])
 refine ⟨h.below.trans (hall.below h.below.size ?_), n6.set_ 3 vC', h.start.kept hall ?_, hall.ownsRow h.ord ?_, ?_, own_ty hall h.eds (hty (by decide) (by decide)), moved_ne hmv h.start.lt h.sepC, h.sepO, fun g hg hg' => ?_, h.ge⟩
 ·rintro b hb (e | e)
  ·have := own_base h.acc e; omega
  ·have := h.ge; omega
 ·rintro (e | e)
  ·exact h.sepC e
  ·exact h.start.ne_ h.b6 (by decide) e
 ·rintro g hg (e | e)
  ·exact h.sep g hg e
  ·exact h6o g hg e
 ·rw [List.length_append, List.map_append]
  exact own_ty hk2 ho (fun g cs e hB => by subst e; exact hB.ne_ n6 (by decide) rfl)
 ·exact moved_ne hmv (own_lt h.ord hg) (h.sep g hg) hg'
theorem CnM.addE {d : Edg} {vE' : Value} {w1 : World} (h : CnM w0 wr g6 gs L vO vC vE st as' es) (hk1 : Kept wr w1 (fun k => vE.ownBlock = some k)) (ho : w1.ownsRow w0.heap.size 65 3 vE' (es.length + 1) (es.flatMap eC ++ eC d)) :
  CnM w0 (w1.setCell ⟨g6, 4, none⟩ vE') g6 gs L vO vC vE' st as' (es ++ [d]) := by
 have n6 := h.b6.kept hk1 (own_blk_ne h.eds h.b6 (by decide))
 have hk2 := (Kept.refl w1 (fun k => k = g6)).setCell (p := ⟨g6, 4, none⟩) (fun _ => rfl) vE'
 have hall : Kept wr (w1.setCell ⟨g6, 4, none⟩ vE') (fun k => vE.ownBlock = some k ∨ k = g6) := (hk1.mono fun _ _ e => .inl e).trans hk2 fun _ _ e => .inr e
 have hty : ∀ {e : TypeId}, e ≠ 65 → e ≠ 28 → ∀ g cs, (vE.ownBlock = some g ∨ g = g6) → ¬ Blk wr g e cs := by
  rintro e h1 h2 g cs (e1 | e1) hB
  ·exact own_blk_ne h.eds hB (fun hh => h1 hh.symm) e1
  ·exact hB.ne_ h.b6 h2 e1
 refine ⟨h.below.trans (hall.below h.below.size ?_), n6.set_ 4 vE', h.start.kept hall fun x => hty (by decide) (by decide) _ _ x h.start, own_ty hall h.ord (hty (by decide) (by decide)), own_ty hall h.acc (hty (by decide) (by decide)), ?_, h.sepC, h.sepO, h.sep, h.ge⟩
 ·rintro b hb (e | e)
  ·have := own_base h.eds e; omega
  ·have := h.ge; omega
 ·rw [List.length_append, List.flatMap_append]
  refine own_ty hk2 ?_ (fun g cs e hB => by subst e; exact hB.ne_ n6 (by decide) rfl)
  simpa using ho
theorem CnM.fin {wF : World} {N : Nat} (h : CnM w0 wr g6 gs L vO vC vE st as' es) (hk : Kept wr wF (fun k => k = g6 ∨ k < w0.heap.size)) (ha : as'.length ≤ 4000000) (he : es.length ≤ 4000000) :
  IsWA wF wF.heap.size (.agg #[.int .i64 (L : Int), .int .i64 (N : Int), .slice (some ⟨gs, 0, none⟩) 1 1, vC, vE]) ⟨(L : Int), (N : Int), [0], as', es⟩ := by
 have hge := h.ge
 have hA := hk.ownsRow h.acc fun g hg e => by
  rcases e with e | e
  ·exact own_blk_ne h.acc h.b6 (by decide) (by rw [hg, e])
  ·have := own_base h.acc hg; omega
 have hE := hk.ownsRow h.eds fun g hg e => by
  rcases e with e | e
  ·exact own_blk_ne h.eds h.b6 (by decide) (by rw [hg, e])
  ·have := own_base h.eds hg; omega
 have hS := h.start.kept hk fun e => by
  rcases e with e | e
  ·exact h.start.ne_ h.b6 (by decide) e
  ·omega
 obtain ⟨A2, c2, e2, h2⟩ := own_slI (B := wF.heap.size) hA rfl (Nat.le_refl _) (by omega)
 obtain ⟨A3, c3, e3, h3⟩ := own_slE (B := wF.heap.size) hE rfl (Nat.le_refl _) (by omega)
 obtain ⟨A1, c1, e1, h1⟩ := own_slI (B := wF.heap.size) (l := [0]) (base := 0) (own_of_blk (n := 1) hS (Nat.zero_le _) rfl (by omega)) rfl (Nat.le_refl _) (by omega)
 injection e1 with e1 _ e4
 subst e1
 exact ⟨_, 1, A2, c2, A3, c3, by rw [e2, e3]; rfl, h1, h2, h3, Nat.le_refl _⟩
end
theorem can_k {wB w : World} {n gc co to base : Nat} {Ao : Option Addr} {cl st : List Nat} (hC : NumsAt wB gc n cl) (hB : Below wB.heap.size wB w) (hO : w.ownsRow base 3 1 (.slice Ao st.length co) st.length ((natL st).map (Value.int .i64))) (hst : ∀ s ∈ st, s < n) (hto : to < n) (hn : n ≤ 200000) (hl : st.length ≤ 200000)
  {u0 u1 u2 u3 u4 u6 u8 u9 u12 u13 u14 u15 u16 u17 u18 u19 u20 u21 u22 u23 u24 u25 u26 u27 u28 u29 u30 u31 u32 u33 u34 u35 u36 u37 u38 u39 u40 u41 u42 u43 u44 u45 u46 u47 u48 u49 u50 u51 u52 u53 u54 u55 u56 u57 u58 u59 u60 u61 u62 u63 u64 u65 u66 u67 u68 u69 u70 u71 u72 u73 u74 u75 u76 u77 u78 u79 u80 u81 u82 u83 u84 u85 u86 u87 u88 u89 u90 u91 u92 u93 u94 u95 : Value}
  {Q : Exit → Act → World → Prop}
  (hQ : ∀ (x55 x56 x57 x58 x59 x60 x61 x62 x63 x64 x65 x66 x67 x68 x69 x70 x71 x72 x73 x74 : Value) (w' : World) (k : Nat), Below w.heap.size w w' → k ≤ st.length → (∀ p s, p < k → st[p]? = some s → cl.getD s 0 ≠ cl.getD to 0) → (∀ s, st[k]? = some s → cl.getD s 0 = cl.getD to 0) →
   Q (.exit 4) ⟨List.toArray (u0 :: u1 :: u2 :: u3 :: u4 :: (.slice (some ⟨gc, 0, none⟩) n n) :: u6 :: (.slice Ao st.length co) :: u8 :: u9 :: (.int .i64 to) :: (.int .i64 k) :: u12 :: u13 :: u14 :: u15 :: u16 :: u17 :: u18 :: u19 :: u20 :: u21 :: u22 :: u23 :: u24 :: u25 :: u26 :: u27 ::
   u28 :: u29 :: u30 :: u31 :: u32 :: u33 :: u34 :: u35 :: u36 :: u37 :: u38 :: u39 :: u40 :: u41 :: u42 :: u43 :: u44 :: u45 :: u46 :: u47 :: u48 :: u49 :: u50 :: u51 :: u52 :: u53 :: u54 :: x55 :: x56 :: x57 :: x58 :: x59 :: x60 :: x61 :: x62 :: x63 :: x64 ::
   x65 :: x66 :: x67 :: x68 :: x69 :: x70 :: x71 :: x72 :: x73 :: x74 :: u75 :: u76 :: u77 :: u78 :: u79 :: u80 :: u81 :: u82 :: u83 :: u84 :: u85 :: u86 :: u87 :: u88 :: u89 :: u90 :: u91 :: u92 :: u93 :: u94 :: u95 :: []), []⟩ w') :
  (Code.loop (loopBody Tryz.f61 2)).wp Tryz.prog Q ⟨List.toArray (u0 :: u1 :: u2 :: u3 :: u4 :: (.slice (some ⟨gc, 0, none⟩) n n) :: u6 :: (.slice Ao st.length co) :: u8 :: u9 :: (.int .i64 to) :: (.int .i64 0) :: u12 :: u13 :: u14 :: u15 :: u16 :: u17 :: u18 :: u19 :: u20 :: u21 :: u22 :: u23 :: u24 :: u25 :: u26 :: u27 ::
   u28 :: u29 :: u30 :: u31 :: u32 :: u33 :: u34 :: u35 :: u36 :: u37 :: u38 :: u39 :: u40 :: u41 :: u42 :: u43 :: u44 :: u45 :: u46 :: u47 :: u48 :: u49 :: u50 :: u51 :: u52 :: u53 :: u54 :: u55 :: u56 :: u57 :: u58 :: u59 :: u60 :: u61 :: u62 :: u63 :: u64 ::
   u65 :: u66 :: u67 :: u68 :: u69 :: u70 :: u71 :: u72 :: u73 :: u74 :: u75 :: u76 :: u77 :: u78 :: u79 :: u80 :: u81 :: u82 :: u83 :: u84 :: u85 :: u86 :: u87 :: u88 :: u89 :: u90 :: u91 :: u92 :: u93 :: u94 :: u95 :: []), []⟩ w := by
 conv => arg 2; arg 1; whnf
 obtain ⟨z, hz⟩ := get_lt (l := cl) (i := to) (by rw [hC.1]; exact hto)
 have hzg : Hid (cl.getD to 0 = z) := getD_some hz
 have hCH := hide hC
 have hcz := hide (hC.2.2 to z hz)
 have hOH := hide hO
 obtain ⟨m, hm⟩ : ∃ m, m = st.length := ⟨_, rfl⟩
 have hmH := hide hm
 have hBB := hide hB
 rw [← hm] at hl ⊢
 simp only [← hm] at hQ
 clear hC hz hO hB hm
 go_loopw [11] (fun kk wr => ∃ (k : Nat), kk = .int .i64 (k : Int) ∧ k ≤ m ∧ Below w.heap.size w wr ∧ Hid (∀ (p s : Nat), p < k → st[p]? = some s → cl.getD s 0 ≠ cl.getD to 0)) (fun kk _ => m - (intOf kk).toNat)
 case atStart => exact ⟨0, rfl, Nat.zero_le _, Below.refl _ _, fun p f h => absurd h (by omega)⟩
 case round =>
  obtain ⟨k, rfl, hk, hBr, hE⟩ := hrel
  have hst2 := hide (fun M => hBr.trans (((Kept.refl wr (fun _ => False)).drewN M).below hBr.size (fun _ _ h => h.elim)))
  by_cases hlt : k < m
  ·obtain ⟨s, hs⟩ := get_lt (l := st) (i := k) (by rw [← hmH.out]; exact hlt)
   have hsn := hst s (List.mem_of_getElem? hs)
   obtain ⟨gf, cf', hv, hcf⟩ := own_get (own_below hOH.out hBr) (map_get (f := Value.int .i64) (map_get (f := fun x : Nat => (x : Int)) hs))
   injection hv with hv hv2 hv3
   subst hv hv3
   obtain ⟨y, hy⟩ := get_lt (l := cl) (i := s) (by rw [hCH.out.1]; exact hsn)
   have hall := hBB.out.trans (hBr.mono hBB.out.size)
   have hcs : wr.cell? ⟨gc, s, none⟩ = some (.int .i64 (y : Int)) := (hall.cell (p := ⟨gc, s, none⟩) hCH.out.2.1).trans (hCH.out.2.2 s y hy)
   have hct : wr.cell? ⟨gc, to, none⟩ = some (.int .i64 (z : Int)) := (hall.cell (p := ⟨gc, to, none⟩) hCH.out.2.1).trans hcz.out
   have hyg : Hid (cl.getD s 0 = y) := getD_some hy
   have hsH := hide hs
   clear hs hy hall hBr hv2
   by_cases hyz : y = z
   ·have hI : (y : Int) = (z : Int) := by omega
    have hyzH := hide hyz
    clear hyz
    go_wp2_with fail
    go_quiet (fail)
    go_wp2_with fail
    refine hQ _ _ _ _ _ _ _ _ _ _ _ _ _ _ _ _ _ _ _ _ _ k (hst2.out _) hk hE.out (fun s' hs' => ?_)
    rw [hsH.out] at hs'
    injection hs' with hs'
    subst hs'
    rw [hyg.out, hzg.out, hyzH.out]
   ·have hI : ¬ (y : Int) = (z : Int) := by omega
    have hyzH := hide hyz
    clear hyz
    go_wp2_with fail
    go_quiet (fail)
    go_wp2_with fail
    refine ⟨⟨k + 1, by go_num, by omega, hst2.out _, fun p s' hp hs' => ?_⟩, by simp [intOf]; omega⟩
    by_cases e : p = k
    ·subst e
     rw [hsH.out] at hs'
     injection hs' with hs'
     subst hs'
     rw [hyg.out, hzg.out]
     exact hyzH.out
    ·exact hE.out p s' (by omega) hs'
  ·obtain rfl : k = m := by omega
   clear hBr
   go_wp2_with fail
   go_quiet (fail)
   go_wp2_with fail
   refine hQ _ _ _ _ _ _ _ _ _ _ _ _ _ _ _ _ _ _ _ _ _ k (hst2.out _) (Nat.le_refl _) hE.out (fun s' hs' => ?_)
   have := lt_of_get hs'
   have := hmH.out
   omega
end Go.Proofs.YtakpmdmjbgipiaaGreatDoor
