/-
  Part JL of a proof.
-/
import Derived.Test.YtakpmdmjbgipiaaGreatDoorPA
import Derived.Test.YtakpmdmjbgipiaaGreatDoorJB
import Derived.Test.YtakpmdmjbgipiaaGreatDoorPB
import Derived.Test.YtakpmdmjbgipiaaGreatDoorPJ
import Derived.Test.YtakpmdmjbgipiaaGreatDoorJC
import Derived.Test.YtakpmdmjbgipiaaGreatDoorJA
set_option maxHeartbeats 16000000
set_option maxRecDepth 100000
set_option linter.unusedVariables false
set_option linter.unusedSimpArgs false
namespace Go.Proofs.YtakpmdmjbgipiaaGreatDoor
open Go.RowKit
set_option maxHeartbeats 16000000
set_option maxRecDepth 100000
structure TbM (w0 wr : World) (g1 g2 g3 : Nat) (cs : Array Value) (L i : Nat) (vN vA : Value) (gi : Nat → Nat) (f : Nat → Nat → Nat) (as' : List Bool) : Prop where
 below : Below w0.heap.size w0 wr
 b1 : Blk wr g1 28 cs
 b2 : Blk wr g2 77 #[sn0, sn0]
 b3 : Blk wr g3 77 #[vN, vA]
 nxt : wr.ownsRow w0.heap.size 22 1 vN i ((List.range i).map fun s => .slice (some ⟨gi s, 0, none⟩) L L)
 row : ∀ s, s < i → Blk wr (gi s) 3 (rangeC L fun x => .int .i64 (f s x : Int)) ∧ w0.heap.size ≤ gi s
 inj : ∀ s, s < i → ∀ s', s' < i → gi s = gi s' → s = s'
 acc : wr.ownsRow w0.heap.size 4 1 vA as'.length (as'.map Value.bool)
 ne : g2 ≠ g3
 ge : w0.heap.size ≤ g1 ∧ w0.heap.size ≤ g2 ∧ w0.heap.size ≤ g3
section
variable {w0 wr w' : World} {g1 g2 g3 L i : Nat} {cs : Array Value} {vN vA : Value} {gi : Nat → Nat} {f : Nat → Nat → Nat} {as' : List Bool}
theorem TbM.keep (h : TbM w0 wr g1 g2 g3 cs L i vN vA gi f as') (hb : Below wr.heap.size wr w') : TbM w0 w' g1 g2 g3 cs L i vN vA gi f as' :=
 ⟨h.below.trans (hb.mono h.below.size), h.b1.below hb, h.b2.below hb, h.b3.below hb, own_below h.nxt hb, fun s hs => ⟨(h.row s hs).1.below hb, (h.row s hs).2⟩, h.inj, own_below h.acc hb, h.ne, h.ge⟩
theorem TbM.addR {gr : Nat} {vN' : Value} {w1 : World} (h : TbM w0 wr g1 g2 g3 cs L i vN vA gi f as') (hr : Blk wr gr 3 (rangeC L fun x => .int .i64 (0 : Int))) (hg : w0.heap.size ≤ gr) (hn : ∀ s, s < i → gi s ≠ gr) (hf : ∀ x, f i x = 0)
  (hk1 : Kept wr w1 (fun k => vN.ownBlock = some k)) (ho : w1.ownsRow w0.heap.size 22 1 vN' (i + 1) (((List.range i).map fun s => Value.slice (some ⟨gi s, 0, none⟩) L L) ++ [.slice (some ⟨gr, 0, none⟩) L L])) :
  TbM w0 (w1.setCell ⟨g3, 0, none⟩ vN') g1 g2 g3 cs L (i + 1) vN' vA (up1 gi i gr) f as' := by
 have n3 := h.b3.kept hk1 (own_blk_ne h.nxt h.b3 (by decide))
 have hk2 := (Kept.refl w1 (fun k => k = g3)).setCell (p := ⟨g3, 0, none⟩) (fun _ => rfl) vN'
 have hall : Kept wr (w1.setCell ⟨g3, 0, none⟩ vN') (fun k => vN.ownBlock = some k ∨ k = g3) := (hk1.mono fun _ _ e => .inl e).trans hk2 fun _ _ e => .inr e
 have hty : ∀ {e : TypeId}, e ≠ 22 → e ≠ 77 → ∀ g cs, (vN.ownBlock = some g ∨ g = g3) → ¬ Blk wr g e cs := by
  rintro e h1 h2 g cs (e1 | e1) hB
  ·exact own_blk_ne h.nxt hB (fun hh => h1 hh.symm) e1
  ·exact hB.ne_ h.b3 h2 e1
 refine ⟨h.below.trans (hall.below h.below.size ?_), h.b1.kept hall fun x => hty (by decide) (by decide) _ _ x h.b1, h.b2.kept hall ?_, n3.set_ 0 vN', ?_, fun s hs => ?_, fun s hs s' hs' e => ?_, own_ty hall h.acc (hty (by decide) (by decide)), h.ne, h.ge⟩
 ·rintro b hb (e | e)
  ·have := own_base h.nxt e; omega
  ·have := h.ge; omega
 ·rintro (e | e)
  ·exact own_blk_ne h.nxt h.b2 (by decide) e
  ·exact h.ne e
 ·rw [List.range_succ, List.map_append]
  have e1 : ((List.range i).map fun s => Value.slice (some ⟨up1 gi i gr s, 0, none⟩) L L) = (List.range i).map fun s => Value.slice (some ⟨gi s, 0, none⟩) L L := List.map_congr_left fun s hs => by
   have := List.mem_range.1 hs
   unfold up1
   rw [if_neg (by omega)]
  rw [e1]
  have e2 : ([i].map fun s => Value.slice (some ⟨up1 gi i gr s, 0, none⟩) L L) = [.slice (some ⟨gr, 0, none⟩) L L] := by simp [up1]
  rw [e2]
  exact own_ty hk2 ho (fun g cs e hB => by subst e; exact hB.ne_ n3 (by decide) rfl)
 ·unfold up1
  split
  ·rename_i e
   subst e
   refine ⟨?_, hg⟩
   have := hr.kept hall fun x => hty (by decide) (by decide) _ _ x hr
   rw [rangeC_congr (g := fun _ => Value.int .i64 (0 : Int)) (fun x _ => by rw [hf]; rfl)]
   exact this
  ·obtain ⟨h3, h4⟩ := h.row s (by omega)
   exact ⟨h3.kept hall fun x => hty (by decide) (by decide) _ _ x h3, h4⟩
 ·unfold up1 at e
  split at e <;> split at e
  ·omega
  ·exact absurd e.symm (hn s' (by omega))
  ·exact absurd e (hn s (by omega))
  ·exact h.inj s (by omega) s' (by omega) e
theorem TbM.addA {b : Bool} {vA' : Value} {w1 : World} (h : TbM w0 wr g1 g2 g3 cs L i vN vA gi f as') (hk1 : Kept wr w1 (fun k => vA.ownBlock = some k)) (ho : w1.ownsRow w0.heap.size 4 1 vA' (as'.length + 1) (as'.map Value.bool ++ [.bool b])) :
  TbM w0 (w1.setCell ⟨g3, 1, none⟩ vA') g1 g2 g3 cs L i vN vA' gi f (as' ++ [b]) := by
 have n3 := h.b3.kept hk1 (own_blk_ne h.acc h.b3 (by decide))
 have hk2 := (Kept.refl w1 (fun k => k = g3)).setCell (p := ⟨g3, 1, none⟩) (fun _ => rfl) vA'
 have hall : Kept wr (w1.setCell ⟨g3, 1, none⟩ vA') (fun k => vA.ownBlock = some k ∨ k = g3) := (hk1.mono fun _ _ e => .inl e).trans hk2 fun _ _ e => .inr e
 have hty : ∀ {e : TypeId}, e ≠ 4 → e ≠ 77 → ∀ g cs, (vA.ownBlock = some g ∨ g = g3) → ¬ Blk wr g e cs := by
  rintro e h1 h2 g cs (e1 | e1) hB
  ·exact own_blk_ne h.acc hB (fun hh => h1 hh.symm) e1
  ·exact hB.ne_ h.b3 h2 e1
 refine ⟨h.below.trans (hall.below h.below.size ?_), h.b1.kept hall fun x => hty (by decide) (by decide) _ _ x h.b1, h.b2.kept hall ?_, n3.set_ 1 vA', own_ty hall h.nxt (hty (by decide) (by decide)), fun s hs => ⟨(h.row s hs).1.kept hall fun x => hty (by decide) (by decide) _ _ x (h.row s hs).1, (h.row s hs).2⟩, h.inj, ?_, h.ne, h.ge⟩
 ·rintro b hb (e | e)
  ·have := own_base h.acc e; omega
  ·have := h.ge; omega
 ·rintro (e | e)
  ·exact own_blk_ne h.acc h.b2 (by decide) e
  ·exact h.ne e
 ·rw [List.length_append, List.map_append]
  exact own_ty hk2 ho (fun g cs e hB => by subst e; exact hB.ne_ n3 (by decide) rfl)
theorem TbM.put {q x y : Nat} (h : TbM w0 wr g1 g2 g3 cs L i vN vA gi f as') (hq : q < i) : TbM w0 (wr.setCell ⟨gi q, x, none⟩ (.int .i64 (y : Int))) g1 g2 g3 cs L i vN vA gi (up2 f q x y) as' := by
 obtain ⟨hB, hg⟩ := h.row q hq
 have hk := (Kept.refl wr (fun k => k = gi q)).setCell (p := ⟨gi q, x, none⟩) (fun _ => rfl) (.int .i64 (y : Int))
 have hty : ∀ {e : TypeId}, e ≠ 3 → ∀ g cs, g = gi q → ¬ Blk wr g e cs := fun h1 g cs e hB' => by subst e; exact hB'.ne_ hB h1 rfl
 refine ⟨h.below.trans (hk.below h.below.size fun b hb e => by omega), h.b1.kept hk fun e => hty (by decide) _ _ e h.b1, h.b2.kept hk fun e => hty (by decide) _ _ e h.b2, h.b3.kept hk fun e => hty (by decide) _ _ e h.b3, own_ty hk h.nxt (hty (by decide)), fun s hs => ?_, h.inj, own_ty hk h.acc (hty (by decide)), h.ne, h.ge⟩
 by_cases e : s = q
 ·subst e
  refine ⟨?_, hg⟩
  have h1 := hB.set_ x (.int .i64 (y : Int))
  rw [rangeC_set] at h1
  rw [rangeC_congr (g := fun z => if z = x then Value.int .i64 (y : Int) else .int .i64 (f s z : Int)) (fun z _ => by
   by_cases ez : z = x
   ·subst ez; rw [up2_same, if_pos rfl]
   ·rw [up2_ne (fun hh => ez hh.2), if_neg ez])]
  exact h1
 ·refine ⟨?_, (h.row s hs).2⟩
  rw [rangeC_congr (g := fun z => Value.int .i64 (f s z : Int)) (fun z _ => by rw [up2_ne (fun hh => e hh.1)])]
  exact (h.row s hs).1.kept hk fun hh => e (h.inj s hs q hq hh)
end
theorem TbM.fin {w0 wr wF : World} {g1 g2 g3 L : Nat} {cs : Array Value} {vN vA : Value} {gi : Nat → Nat} {f : Nat → Nat → Nat} {t : List (List Nat)} {ac : List Bool} (h : TbM w0 wr g1 g2 g3 cs L ac.length vN vA gi f ac) (hok : DOK L t ac) (hf : ∀ q x, q < ac.length → x < L → f q x = dnx t q x) (hL : L ≤ 8) (hk : Kept wr wF (fun k => k = g2 ∨ k < w0.heap.size)) : OwnDF wF w0.heap.size (.agg #[vN, vA]) t ac := by
 have hge := h.ge
 have hx : ∀ {e : TypeId} {v : Value} {n : Nat} {xs : List Value}, e ≠ 77 → wr.ownsRow w0.heap.size e 1 v n xs → wF.ownsRow w0.heap.size e 1 v n xs := fun he ho => hk.ownsRow ho fun g hg e => by
  rcases e with e | e
  ·exact own_blk_ne ho h.b2 he (by rw [hg, e])
  ·have := own_base ho hg; omega
 have htl := hok.len
 refine ⟨vN, vA, _, rfl, hx (by decide) h.acc, by rw [htl]; exact hx (by decide) h.nxt, F2.of_get (by simp [htl]) fun s v d hv hd => ?_⟩
 have hs : s < ac.length := by simpa using lt_of_get hv
 rw [List.getElem?_map, List.getElem?_range hs] at hv
 have hv := Option.some.inj hv
 subst hv
 obtain ⟨r, hr⟩ := get_lt (l := t) (i := s) (by omega)
 rw [List.getElem?_map, hr] at hd
 have hd := Option.some.inj hd
 subst hd
 obtain ⟨hB, hg⟩ := h.row s hs
 have hrl := (hok.row r (List.mem_of_getElem? hr)).1
 have hown := hx (by decide) (own_of_blk (base := w0.heap.size) (n := L) hB hg (rangeC_size _ _) (by omega))
 refine ⟨?_, fun _ _ => trivial⟩
 have e : (rangeC L fun x => Value.int .i64 (f s x : Int)).toList = (natL r).map (Value.int .i64) := by
  apply List.ext_getElem?
  intro x
  rcases Nat.lt_or_ge x L with hxL | hxL
  ·obtain ⟨y, hy⟩ := get_lt (l := r) (i := x) (by omega)
   have hfy : f s x = y := by
    rw [hf s x hs hxL]
    unfold dnx
    rw [getD_some hr, getD_some hy]
   rw [show (rangeC L fun x => Value.int .i64 (f s x : Int)).toList[x]? = some (.int .i64 (f s x : Int)) from by
    rw [Array.getElem?_toList]; exact rangeC_get _ hxL, hfy, List.getElem?_map, natL, List.getElem?_map, hy]
   rfl
  ·rw [List.getElem?_eq_none (by rw [Array.length_toList, rangeC_size]; exact hxL), List.getElem?_eq_none (by simp [natL]; omega)]
 rw [e] at hown
 have el : (natL r).length = L := by simp [natL, hrl]
 rw [el]
 exact hown
end Go.Proofs.YtakpmdmjbgipiaaGreatDoor
namespace Go.Proofs.YtakpmdmjbgipiaaGreatDoor
open Go.RowKit
set_option maxHeartbeats 16000000
set_option maxRecDepth 100000
theorem tb_rows {w0 w : World} {g1 g2 g3 L n l1 c1 c2 l3 c3 : Nat} {A1 A2 A3 : Option Addr} {ac : List Bool} (hM : TbM w0 w g1 g2 g3 #[.int .i64 (L : Int), .int .i64 (n : Int), .slice A1 l1 c1, .slice A2 (setL ac).length c2, .slice A3 l3 c3] L 0 sn0 sn0 (fun _ => 0) (fun _ _ => 0) []) (hA : Sl w0 w0.heap.size 1 encI A2 (setL ac)) (hn : n = ac.length) (hn9 : n ≤ 200000) (hL : L ≤ 8)
  {u0 u2 u5 u6 u7 u8 u9 u10 u11 u12 u13 u14 u15 u16 u17 u18 u19 u20 u21 u22 u23 u24 u25 u26 u27 u28 u29 u30 u31 u32 u33 u34 u35 u36 u37 u38 u39 u40 u41 u42 u43 u44 u45 u46 u47 u48 u49 u50 u51 u52 u53 u54 u55 u56 u57 u58 u59 : Value}
  {Q : Exit → Act → World → Prop} (hN : Reg.NoQ Q)
  (hQ : ∀ (x4 x6 x7 x8 x9 x10 x11 x12 x13 x14 x15 x16 x17 x18 x19 x20 x21 x22 x23 x24 x25 x26 x27 x28 : Value) (w' : World) (vN vA : Value) (gi : Nat → Nat), TbM w0 w' g1 g2 g3 #[.int .i64 (L : Int), .int .i64 (n : Int), .slice A1 l1 c1, .slice A2 (setL ac).length c2, .slice A3 l3 c3] L n vN vA gi (fun _ _ => 0) ac → Q (.exit 0) ⟨List.toArray (u0 :: (.pointer (some ⟨g1, 0, none⟩)) :: u2 :: (.pointer (some ⟨g3, 0, none⟩)) :: x4 :: u5 :: x6 :: x7 :: x8 :: x9 :: x10 :: x11 :: x12 :: x13 :: x14 :: x15 :: x16 :: x17 :: x18 :: x19 :: x20 :: x21 :: x22 :: x23 :: x24 :: x25 :: x26 :: x27 :: x28 :: u29 ::
   u30 :: u31 :: u32 :: u33 :: u34 :: u35 :: u36 :: u37 :: u38 :: u39 :: u40 :: u41 :: u42 :: u43 :: u44 :: u45 :: u46 :: u47 :: u48 :: u49 :: u50 :: u51 :: u52 :: u53 :: u54 :: u55 :: u56 :: u57 :: u58 :: u59 :: []), []⟩ w') :
  (Code.loop (loopBody Tryz.f66 0)).wp Tryz.prog Q ⟨List.toArray (u0 :: (.pointer (some ⟨g1, 0, none⟩)) :: u2 :: (.pointer (some ⟨g3, 0, none⟩)) :: (.int .i64 0) :: u5 :: u6 :: u7 :: u8 :: u9 :: u10 :: u11 :: u12 :: u13 :: u14 :: u15 :: u16 :: u17 :: u18 :: u19 :: u20 :: u21 :: u22 :: u23 :: u24 :: u25 :: u26 :: u27 :: u28 ::
   u29 :: u30 :: u31 :: u32 :: u33 :: u34 :: u35 :: u36 :: u37 :: u38 :: u39 :: u40 :: u41 :: u42 :: u43 :: u44 :: u45 :: u46 :: u47 :: u48 :: u49 :: u50 :: u51 :: u52 :: u53 :: u54 :: u55 :: u56 :: u57 :: u58 :: u59 :: []), []⟩ w := by
 conv => arg 2; arg 1; whnf
 have hMH := hide hM
 have hAH := hide hA
 have hnH := hide hn
 obtain ⟨la, hla⟩ : ∃ la, la = (setL ac).length := ⟨_, rfl⟩
 have hlaH := hide hla
 simp only [← hla] at hQ hMH
 clear hM hA hn hla
 go_loopw [4] (fun ii wr => ∃ (i : Nat) (vN vA : Value) (gi : Nat → Nat), ii = .int .i64 (i : Int) ∧ i ≤ n ∧ Hid (TbM w0 wr g1 g2 g3 #[.int .i64 (L : Int), .int .i64 (n : Int), .slice A1 l1 c1, .slice A2 la c2, .slice A3 l3 c3] L i vN vA gi (fun _ _ => 0) (ac.take i))) (fun ii _ => n - (intOf ii).toNat)
 case atStart => exact ⟨0, _, _, _, rfl, Nat.zero_le _, hMH⟩
 case round =>
  obtain ⟨i, vN, vA, gi, rfl, hi, hI⟩ := hrel
  have hc1 := hI.out.b1.cell
  by_cases hlt : i < n
  ·obtain ⟨b, hb⟩ := get_lt (l := ac) (i := i) (by rw [← hnH.out]; exact hlt)
   obtain ⟨AN, cN, rfl⟩ := slice_of_own hI.out.nxt
   obtain ⟨AA, cA, rfl⟩ := slice_of_own hI.out.acc
   have hli : (ac.take i).length = i := by rw [List.length_take]; have := hnH.out; omega
   have hliH := hide hli
   have hc3 := hI.out.b3.cell
   rw [hli] at hc3
   have hnx := hI.out.nxt
   have hi4 : i + 1 ≤ 4000000 := by omega
   have hn8 : L ≤ 200000 := by omega
   have hbH := hide hb
   have hb3H := hide hI.out.b3
   have hb1H := hide hI.out.b1
   have hszI := hI.out.below.size
   clear hb hli
   go_wp2_with fail
   refine Reg.cC [0, 1, 0, 4, 12, 28, 63, 127, 255] [0, 1, 2, 3, 4, 5, 6, 7, 8] ?_ (by kernel_rfl) (by repeat (first | exact hN | refine Reg.NoQ.then ?_ | refine Reg.NoQ.inBlock ?_))
   refine Reg.rest_walk' [0, 1, 2, 3] [4, 5, 6, 7, 8] rfl (by kernel_rfl) ?_
   intro Qf hQf
   go_wp2_with fail
   first | refine hQf _ _ ?_ | skip
   try clear hQf
   refine Reg.rest_act' 4 [5, 6, 7, 8] [1] rfl (by kernel_rfl) ?_
   intro Qf hQf
   simp only [gT, gS, gZ]
   refine wpList_make Tryz.underlying22 info3 (by omega) (by omega) L hn8 rfl _ _ rfl rfl rfl ?_
   intro gr w3 hb3 hBd3 hgr3
   first | refine hQf _ _ ⟨Reg.same_below hBd3 _ rfl, ?_⟩ | refine ⟨Reg.same_below hBd3 _ rfl, ?_⟩
   try clear hQf
   have hBd4 : Below wr.heap.size wr w3 := (drewB wr).trans hBd3
   have hI3 := hide (hI.out.keep hBd4)
   have hnx3 := hI3.out.nxt
   have hz : Hid (Blk w3 gr 3 (rangeC L fun _ => .int .i64 (0 : Int))) := by
    have h1 := hb3
    rw [show (Value.int .i64 0).cells = #[Value.int .i64 0] from rfl, madeCells_one, rangeC_rep] at h1
    exact h1
   have hgr : wr.heap.size ≤ gr := hgr3
   have hsz3 := hI3.out.below.size
   clear hb3 hBd3 hBd4 hgr3 hc3
   refine Reg.rest_walk' [5] [6, 7, 8] rfl (by kernel_rfl) ?_
   intro Qf hQf
   go_wp2_with fail
   first | refine hQf _ _ ?_ | skip
   try clear hQf
   refine Reg.rest_act' 6 [7, 8] [] rfl (by kernel_rfl) ?_
   intro Qf hQf
   simp only [gT, gS, gZ]
   refine wpList_app_new (w := w3) row22 rfl _ _ rfl w0.heap.size (.slice AN i cN) i _ rfl hnx3 [.slice (some ⟨gr, 0, none⟩) L L] 1 rfl rfl (by simp [Value.oneCell']) hi4 hsz3 ?_
   intro g5 cap5 w5 hown5 hk5 hmv5 hg5
   have hb35 := hI3.out.b3.kept hk5 (own_blk_ne hI3.out.nxt hI3.out.b3 (by decide))
   have hf35 := hb35.frozen 0
   have hl35 := hb35.lt
   have hc35 := hb35.cell
   rw [hliH.out] at hc35
   have hI5 := hI3.out.addR (vN' := .slice (some ⟨g5, 0, none⟩) (i + 1) cap5) (w1 := w5) hz.out (by omega) (fun s hs e => by have := (hI.out.row s hs).1.lt; omega) (fun _ => rfl) hk5 hown5
   obtain ⟨w6, hw6⟩ : ∃ w6, w5.setCell ⟨g3, 0, none⟩ (.slice (some ⟨g5, 0, none⟩) (i + 1) cap5) = w6 := ⟨_, rfl⟩
   rw [hw6] at hI5
   have hI6 := hide hI5
   have hc16 := hI5.b1.cell
   have hc36 := hI5.b3.cell
   rw [hliH.out] at hc36
   have hhas := has_any (c := c2) (i : Int) (hAH.out.keep (w' := w6.drew) (fun p hp => (hI5.below.trans ((drewB w6).mono hI5.below.size)).cell hp) (Nat.le_refl _))
   rw [← hlaH.out] at hhas
   have hdec : decide ((i : Int) ∈ setL ac) = b := by
    rcases hbb : b with _ | _
    ·refine decide_eq_false fun hm => ?_
     obtain ⟨q, hq, hq2⟩ := mem_setL.1 hm
     have : q = i := by omega
     subst this
     rw [hbH.out, hbb] at hq2
     cases hq2
    ·exact decide_eq_true (mem_setL.2 ⟨i, rfl, by rw [hbH.out, hbb]⟩)
   rw [hdec] at hhas
   have hacc6 := hI5.acc
   rw [hliH.out] at hacc6
   have hsz6 := hI5.below.size
   have htk : Hid (ac.take i ++ [b] = ac.take (i + 1)) := (take_snoc hbH.out).symm
   refine hQf _ _ ⟨Reg.nm, ?_⟩
   clear hQf hown5 hk5 hmv5 hb35 hI5 hdec hnx3
   refine Reg.rest_walk' [7, 8] [] rfl (by kernel_rfl) ?_
   intro Qf hQf
   go_wp2_with fail
   first | refine hQf _ _ ?_ | skip
   try clear hQf
   refine Reg.rest_end ?_
   go_wp2_with fail
   refine Reg.cC [0, 1, 0, 4, 0, 28, 60, 127, 255, 511] [0, 1, 2, 3, 4, 5, 6, 7, 8, 9] ?_ (by kernel_rfl) (by repeat (first | exact hN | refine Reg.NoQ.then ?_ | refine Reg.NoQ.inBlock ?_))
   refine Reg.rest_walk' [0, 1, 2, 3, 4] [5, 6, 7, 8, 9] rfl (by kernel_rfl) ?_
   intro Qf hQf
   go_wp2_with fail
   first | refine hQf _ _ ?_ | skip
   try clear hQf
   refine Reg.rest_act' 5 [6, 7, 8, 9] [1] rfl (by kernel_rfl) ?_
   intro Qf hQf
   simp only [gT, gS, gZ]
   go_wp2_with fail
   refine hhas.mono ?_
   rintro r w8 ⟨rfl, rfl⟩
   clear hhas
   go_wp2_with fail
   first | refine hQf _ _ ⟨Reg.same_below (Below.refl _ _) [1] rfl, ?_⟩ | refine ⟨Reg.same_below (Below.refl _ _) [1] rfl, ?_⟩
   try clear hQf
   refine Reg.rest_walk' [6] [7, 8, 9] rfl (by kernel_rfl) ?_
   intro Qf hQf
   go_wp2_with fail
   first | refine hQf _ _ ?_ | skip
   try clear hQf
   refine Reg.rest_act' 7 [8, 9] [] rfl (by kernel_rfl) ?_
   intro Qf hQf
   simp only [gT, gS, gZ]
   refine wpList_app_new (w := w6.drew) row4 rfl _ _ rfl w0.heap.size (.slice AA i cA) i _ rfl hacc6 [.bool b] 1 rfl rfl (by simp [Value.oneCell']) hi4 hsz6 ?_
   intro gA capA wA hownA hkA hmvA hgA
   have hkA' : Kept w6 wA (fun b => (Value.slice AA (ac.take i).length cA).ownBlock = some b) := by
    rw [hliH.out]
    exact ⟨hkA.os, hkA.tape, hkA.output, hkA.size, hkA.block⟩
   have hb3A := hI6.out.b3.kept hkA' (own_blk_ne hI6.out.acc hI6.out.b3 (by decide))
   have hfA := hb3A.frozen 1
   have hlA := hb3A.lt
   have hcA := hb3A.cell
   have hIA := hide (hI6.out.addA (b := b) (vA' := .slice (some ⟨gA, 0, none⟩) (i + 1) capA) hkA' (by rw [hliH.out]; exact hownA))
   refine hQf _ _ ⟨Reg.nm, ?_⟩
   clear hQf hownA hkA hkA' hmvA hb3A hacc6
   refine Reg.rest_walk' [8, 9] [] rfl (by kernel_rfl) ?_
   intro Qf hQf
   go_wp2_with fail
   first | refine hQf _ _ ?_ | skip
   try clear hQf
   refine Reg.rest_end ?_
   go_wp2_with fail
   refine ⟨⟨i + 1, .slice (some ⟨g5, 0, none⟩) (i + 1) cap5, .slice (some ⟨gA, 0, none⟩) (i + 1) capA, up1 gi i gr, by go_num, by omega, ?_⟩, by simp [intOf]; omega⟩
   have h1 := hIA.out
   rw [htk.out] at h1
   exact h1
  ·obtain rfl : i = n := by omega
   have hIe := hI.out
   rw [List.take_of_length_le (by rw [← hnH.out]; exact Nat.le_refl _)] at hIe
   go_wp2_with fail
   exact hQ _ _ _ _ _ _ _ _ _ _ _ _ _ _ _ _ _ _ _ _ _ _ _ _ wr vN vA gi hIe
end Go.Proofs.YtakpmdmjbgipiaaGreatDoor
namespace Go.Proofs.YtakpmdmjbgipiaaGreatDoor
open Go.RowKit
set_option maxHeartbeats 16000000
set_option maxRecDepth 100000
theorem edgE_at {L : Nat} {t : List (List Nat)} : ∀ {n q x : Nat}, q < n → x < L → (edgE L t n)[q * L + x]? = some ⟨(q : Int), (x : Int), (dnx t q x : Int)⟩
 | 0, _, _, h, _ => by omega
 | n + 1, q, x, hq, hx => by
  rw [edgE_succ]
  by_cases e : q < n
  ·have h1 : q * L + L ≤ n * L := by
    have := Nat.mul_le_mul_right L (show q + 1 ≤ n from e)
    rw [Nat.succ_mul] at this
    exact this
   rw [List.getElem?_append_left (by rw [edgE_len]; omega)]
   exact edgE_at e hx
  ·obtain rfl : q = n := by omega
   rw [List.getElem?_append_right (by rw [edgE_len]; omega), edgE_len, show q * L + x - q * L = x by omega]
   unfold rowE
   rw [List.getElem?_map, List.getElem?_range hx]
   rfl
def tabK (L : Nat) (t : List (List Nat)) (k q x : Nat) : Nat := if q * L + x < k then dnx t q x else 0
theorem place_eq {L q q' x x' : Nat} (hx : x < L) (hx' : x' < L) (h : q' * L + x' = q * L + x) : q' = q ∧ x' = x := by
 have h1 : ∀ {a b : Nat}, b < L → (a * L + b) / L = a ∧ (a * L + b) % L = b := fun {a b} hb => by
  rw [Nat.mul_comm]
  exact ⟨by rw [Nat.mul_add_div (by omega), Nat.div_eq_of_lt hb, Nat.add_zero], by rw [Nat.mul_add_mod, Nat.mod_eq_of_lt hb]⟩
 exact ⟨by rw [← (h1 (a := q') hx').1, h, (h1 hx).1], by rw [← (h1 (a := q') hx').2, h, (h1 hx).2]⟩
theorem tabK_succ {L : Nat} {t : List (List Nat)} {q x : Nat} (hx : x < L) {q' x' : Nat} (hx' : x' < L) : up2 (tabK L t (q * L + x)) q x (dnx t q x) q' x' = tabK L t (q * L + x + 1) q' x' := by
 unfold up2 tabK
 by_cases e : q' = q ∧ x' = x
 ·obtain ⟨rfl, rfl⟩ := e
  rw [if_pos ⟨rfl, rfl⟩, if_pos (by omega)]
 ·rw [if_neg e]
  by_cases h : q' * L + x' < q * L + x
  ·rw [if_pos h, if_pos (by omega)]
  ·have : ¬ q' * L + x' = q * L + x := fun hh => e (place_eq hx hx' hh)
   rw [if_neg h, if_neg (by omega)]
theorem TbM.congr {w0 wr : World} {g1 g2 g3 L i : Nat} {cs : Array Value} {vN vA : Value} {gi : Nat → Nat} {f f' : Nat → Nat → Nat} {as' : List Bool} (h : TbM w0 wr g1 g2 g3 cs L i vN vA gi f as') (hf : ∀ s x, s < i → x < L → f s x = f' s x) : TbM w0 wr g1 g2 g3 cs L i vN vA gi f' as' :=
 ⟨h.below, h.b1, h.b2, h.b3, h.nxt, fun s hs => ⟨by
  rw [rangeC_congr (g := fun x => Value.int .i64 (f s x : Int)) (fun x hx => by rw [hf s x hs hx])]
  exact (h.row s hs).1, (h.row s hs).2⟩, h.inj, h.acc, h.ne, h.ge⟩
theorem tb_edges {w0 w : World} {g1 g2 g3 L n l1 c1 l2 c2 c3 m : Nat} {A1 A2 A3 : Option Addr} {t : List (List Nat)} {ac : List Bool} {vN vA : Value} {gi : Nat → Nat} (hM : TbM w0 w g1 g2 g3 #[.int .i64 (L : Int), .int .i64 (n : Int), .slice A1 l1 c1, .slice A2 l2 c2, .slice A3 m c3] L n vN vA gi (fun _ _ => 0) ac) (hA : Sl w0 w0.heap.size 3 encE A3 (edgE L t n)) (hm : m = n * L) (hn9 : n ≤ 200000) (hL1 : 1 ≤ L) (hL : L ≤ 8) (hlt : ∀ q x, q < n → x < L → dnx t q x < n)
  {u0 u2 u4 u6 u7 u8 u9 u10 u11 u12 u13 u14 u15 u16 u17 u18 u19 u20 u21 u22 u23 u24 u25 u26 u27 u28 u29 u30 u31 u32 u33 u34 u35 u36 u37 u38 u39 u40 u41 u42 u43 u44 u45 u46 u47 u48 u49 u50 u51 u52 u53 u54 u55 u56 u57 u58 u59 : Value}
  {Q : Exit → Act → World → Prop} (hN : Reg.NoQ Q)
  (hQ : ∀ (x5 x29 x30 x31 x32 x33 x34 x35 x36 x37 x38 x39 x40 x41 x42 x43 x44 x45 x46 x47 x48 x49 x50 x51 x52 x53 x54 x55 x56 x57 x58 : Value) (w' : World), TbM w0 w' g1 g2 g3 #[.int .i64 (L : Int), .int .i64 (n : Int), .slice A1 l1 c1, .slice A2 l2 c2, .slice A3 m c3] L n vN vA gi (dnx t) ac → Q (.exit 2) ⟨List.toArray (u0 :: (.pointer (some ⟨g1, 0, none⟩)) :: u2 :: (.pointer (some ⟨g3, 0, none⟩)) :: u4 :: x5 :: u6 :: u7 :: u8 :: u9 :: u10 :: u11 :: u12 :: u13 :: u14 :: u15 :: u16 :: u17 :: u18 :: u19 :: u20 :: u21 :: u22 :: u23 :: u24 :: u25 :: u26 :: u27 :: u28 :: x29 ::
   x30 :: x31 :: x32 :: x33 :: x34 :: x35 :: x36 :: x37 :: x38 :: x39 :: x40 :: x41 :: x42 :: x43 :: x44 :: x45 :: x46 :: x47 :: x48 :: x49 :: x50 :: x51 :: x52 :: x53 :: x54 :: x55 :: x56 :: x57 :: x58 :: u59 :: []), []⟩ w') :
  (Code.loop (loopBody Tryz.f66 1)).wp Tryz.prog Q ⟨List.toArray (u0 :: (.pointer (some ⟨g1, 0, none⟩)) :: u2 :: (.pointer (some ⟨g3, 0, none⟩)) :: u4 :: (.int .i64 0) :: u6 :: u7 :: u8 :: u9 :: u10 :: u11 :: u12 :: u13 :: u14 :: u15 :: u16 :: u17 :: u18 :: u19 :: u20 :: u21 :: u22 :: u23 :: u24 :: u25 :: u26 :: u27 :: u28 ::
   u29 :: u30 :: u31 :: u32 :: u33 :: u34 :: u35 :: u36 :: u37 :: u38 :: u39 :: u40 :: u41 :: u42 :: u43 :: u44 :: u45 :: u46 :: u47 :: u48 :: u49 :: u50 :: u51 :: u52 :: u53 :: u54 :: u55 :: u56 :: u57 :: u58 :: u59 :: []), []⟩ w := by
 conv => arg 2; arg 1; whnf
 have hMH := hide (hM.congr (f' := tabK L t 0) fun s x _ _ => by unfold tabK; rw [if_neg (by omega)])
 have hAH := hide hA
 have hmH := hide hm
 have hm9 : m ≤ 1600000 := by
  have h1 : n * L ≤ 200000 * 8 := Nat.mul_le_mul hn9 hL
  omega
 clear hM hA hm
 go_loopw [5] (fun ii wr => ∃ (k : Nat), ii = .int .i64 (k : Int) ∧ k ≤ m ∧ Hid (TbM w0 wr g1 g2 g3 #[.int .i64 (L : Int), .int .i64 (n : Int), .slice A1 l1 c1, .slice A2 l2 c2, .slice A3 m c3] L n vN vA gi (tabK L t k) ac)) (fun ii _ => m - (intOf ii).toNat)
 case atStart => exact ⟨0, rfl, Nat.zero_le _, hMH⟩
 case round =>
  obtain ⟨k, rfl, hk, hI⟩ := hrel
  have hc1 := hI.out.b1.cell
  by_cases hlt2 : k < m
  ·have hqx : ∃ q x, k = q * L + x ∧ q < n ∧ x < L := by
    refine ⟨k / L, k % L, by rw [Nat.mul_comm]; exact (Nat.div_add_mod k L).symm, ?_, Nat.mod_lt _ (by omega)⟩
    rw [Nat.div_lt_iff_lt_mul (by omega)]
    have := hmH.out
    omega
   obtain ⟨q, x, hke, hq, hx⟩ := hqx
   have hed := edgE_at (t := t) hq hx
   rw [← hke] at hed
   obtain ⟨bE, oE, rfl, hbE, hcE⟩ := hAH.out.2 (fun e => by rw [e] at hed; simp at hed)
   have hce := fun j hj => (hI.out.below.cell (p := ⟨bE, oE + k * 3 + j, none⟩) hbE).trans (hcE k _ hed j hj)
   have e0 := hce 0 (by omega)
   have e1 := hce 1 (by omega)
   have e2 := hce 2 (by omega)
   simp only [Nat.add_zero, encE] at e0 e1 e2
   have hto := hlt q x hq hx
   obtain ⟨to, htoe⟩ : ∃ to, to = dnx t q x := ⟨_, rfl⟩
   rw [← htoe] at e2 hto
   obtain ⟨gN, cN, hv, hcN⟩ := own_get hI.out.nxt (k := q) (u := .slice (some ⟨gi q, 0, none⟩) L L) (by rw [List.getElem?_map, List.getElem?_range hq]; rfl)
   subst hv
   have hc3 := hI.out.b3.cell
   have hrow := (hI.out.row q hq).1
   have hfr := hrow.frozen x
   have hlr := hrow.lt
   have hcr : wr.cell? ⟨gi q, x, none⟩ = some (.int .i64 (tabK L t k q x : Int)) := by rw [hrow.cell, rangeC_get _ hx]
   have hput := hide (((hI.out.put (y := to) (x := x) hq).keep (drewB _)).congr (f' := tabK L t (k + 1)) fun s z _ hz => by
    rw [hke, htoe]
    exact tabK_succ hx hz)
   have hkH := hide hke
   have htH := hide htoe
   clear hce hcE hed hrow hke htoe
   go_wp2_with fail
   refine Reg.cP [0, 1, 0, 4, 0, 28, 60, 124, 255, 511, 0, 1024, 0, 7168, 15360, 31744, 0, 65536, 0, 458752, 983040, 2031616, 4194303, 8388607] ?_ (by kernel_rfl) (by repeat (first | exact hN | refine Reg.NoQ.then ?_ | refine Reg.NoQ.inBlock ?_))
   go_wp2_with fail
   exact ⟨⟨k + 1, by go_num, by omega, hput⟩, by simp [intOf]; omega⟩
  ·have hkm : k = m := by omega
   have hIe := hI.out.congr (f' := dnx t) fun s x hs hx => by
    unfold tabK
    rw [if_pos]
    have := Nat.mul_le_mul_right L (show s + 1 ≤ n from hs)
    rw [Nat.succ_mul] at this
    have := hmH.out
    omega
   go_wp2_with fail
   first | exact hIe | exact hQ _ _ _ _ _ _ _ _ _ _ _ _ _ _ _ _ _ _ _ _ _ _ _ _ _ _ _ _ _ _ _ wr hIe
theorem table_any {w : World} {v : Value} {L : Nat} {t : List (List Nat)} {ac : List Bool} (h : IsWA w w.heap.size v (plainW L t ac)) (hok : DOK L t ac) (hn : ac.length ≤ 200000) (hL1 : 1 ≤ L) (hL : L ≤ 8) :
  Calls Tryz.prog 66 #[v] w (Ret fun r w' => Below w.heap.size w w' ∧ OwnDF w' w.heap.size r t ac) := by
 obtain ⟨A1, c1, A2, c2, A3, c3, rfl, -, h2, h3, -⟩ := h
 have hel : (plainW L t ac).edges.length = ac.length * L := plainW_edges
 obtain ⟨n, hne⟩ : ∃ n, n = ac.length := ⟨_, rfl⟩
 obtain ⟨m, hme⟩ : ∃ m, m = (plainW L t ac).edges.length := ⟨_, rfl⟩
 have hnH := hide hne
 have hmH : Hid (m = n * L) := by show m = n * L; rw [hme, hel, hne]
 have h2H : Hid (Sl w w.heap.size 1 encI A2 (setL ac)) := h2
 have h3H : Hid (Sl w w.heap.size 3 encE A3 (edgE L t n)) := by rw [hne]; exact h3
 rw [← hme]
 have hst : (plainW L t ac).states = (n : Int) := by rw [hne]; rfl
 rw [hst, show (plainW L t ac).letters = (L : Int) from rfl, show (plainW L t ac).start.length = 1 from rfl, show (plainW L t ac).accept = setL ac from rfl]
 obtain ⟨w1, w2, w3, hw1, hw2, hw3, hb3, hB2, hB4, hB6, l1, l2, l3⟩ := sb_mem w #[.int .i64 (L : Int), .int .i64 (n : Int), .slice A1 1 c1, .slice A2 (setL ac).length c2, .slice A3 m c3]
 have hM0 := hide (show TbM w w3 w.heap.size w1.heap.size w2.heap.size #[.int .i64 (L : Int), .int .i64 (n : Int), .slice A1 1 c1, .slice A2 (setL ac).length c2, .slice A3 m c3] L 0 sn0 sn0 (fun _ => 0) (fun _ _ => 0) [] from ⟨hb3, hB2, hB4, hB6, own_nil, fun s hs => absurd hs (by omega), fun s hs => absurd hs (by omega), own_nil, by omega, ⟨by omega, by omega, by omega⟩⟩)
 have hokH := hide hok
 have hn9 : n ≤ 200000 := by omega
 clear h2 h3 hel hne hme hst hb3 hB2 hB4 hB6 hok hn
 go_enter Tryz.func66, Tryz.ntmps66
 go_wp2_with fail
 refine tb_rows hM0.out h2H.out hnH.out hn9 hL ?_ ?_
 ·repeat (first | exact Reg.NoQ.body (fun _ _ h => h) (fun _ h => h) | refine Reg.NoQ.then ?_ | refine Reg.NoQ.inBlock ?_)
 ·iterate 24 (intro _)
  intro w4 vN vA gi hM4
  have hM4H := hide hM4
  clear hM4
  go_wp2_with fail
  refine tb_edges (t := t) hM4H.out h3H.out hmH.out hn9 hL1 hL (fun q x hq hx => by
   rw [hnH.out] at hq ⊢
   exact hokH.out.lt hq hx) ?_ ?_
  ·repeat (first | exact Reg.NoQ.body (fun _ _ h => h) (fun _ h => h) | refine Reg.NoQ.then ?_ | refine Reg.NoQ.inBlock ?_)
  ·iterate 31 (intro _)
   intro w5 hM5
   have hM5H := hide hM5
   obtain ⟨AN, cN, rfl⟩ := slice_of_own hM5.nxt
   obtain ⟨AA, cA, rfl⟩ := slice_of_own hM5.acc
   have hb2 := hM5.b2
   have hf2 := hb2.frozen
   have hl2 := hb2.lt
   have hc2 := hb2.cell
   have hc3 := hM5.b3.cell
   rw [← hnH.out] at hc3
   obtain ⟨wF, hwF, hBF, hKF⟩ := set2_facts hb2 (.slice AN n cN) (.slice AA n cA)
   have hBFc := hBF.cell
   have hbF := hide (hM5.below.trans (hKF.below hM5.below.size fun b hb e => by have := hM5.ge; omega))
   have hfin : Hid (OwnDF wF w.heap.size (.agg #[.slice AN n cN, .slice AA n cA]) t ac) := by
    have h1 := hM5
    rw [hnH.out] at h1
    have h2 := h1.fin (f := dnx t) hokH.out (fun _ _ _ _ => rfl) hL (wF := wF) (hKF.mono fun _ _ e => .inl e)
    rw [← hnH.out] at h2
    exact h2
   unfold set2 at hwF
   clear hM5 hb2 hBF hKF hM5H hM4H
   go_wp2_with fail
   exact bodyPost_ret (v := .agg #[.slice AN n cN, .slice AA n cA]) (by simp [results, Tryz.results66, go_sem, hBFc]) rfl ⟨hbF.out, hfin.out⟩
end Go.Proofs.YtakpmdmjbgipiaaGreatDoor
namespace Go.Proofs.YtakpmdmjbgipiaaGreatDoor
open Go.RowKit
set_option maxHeartbeats 16000000
set_option maxRecDepth 100000
def fst' (all : List (Nat × Nat)) : List Nat := all.map (·.1)
def snd' (all : List (Nat × Nat)) : List Nat := all.map (·.2)
structure JnM (w0 wr : World) (g9 : Nat) (vN vA vF vG : Value) (all : List (Nat × Nat)) (t : List (List Nat)) (as' : List Bool) (ws : List Value) (N : Nat → Prop) : Prop where
 below : Below w0.heap.size w0 wr
 b9 : Blk wr g9 77 #[vN, vA]
 f : wr.ownsRow w0.heap.size 3 1 vF all.length ((natL (fst' all)).map (Value.int .i64))
 g : wr.ownsRow w0.heap.size 3 1 vG all.length ((natL (snd' all)).map (Value.int .i64))
 acc : wr.ownsRow w0.heap.size 4 1 vA as'.length (as'.map Value.bool)
 nxt : wr.ownsRow w0.heap.size 22 1 vN t.length ws
 nxtR : RowsI wr w0.heap.size N ws (t.map natL)
 sep : ∀ k, vF.ownBlock = some k → vG.ownBlock ≠ some k
 nF : ∀ k, N k → vF.ownBlock ≠ some k
 nG : ∀ k, N k → vG.ownBlock ≠ some k
 ge : w0.heap.size ≤ g9
section
variable {w0 wr w' w1 : World} {g9 : Nat} {vN vA vF vG : Value} {all : List (Nat × Nat)} {t : List (List Nat)} {as' : List Bool} {ws : List Value} {N : Nat → Prop}
theorem JnM.keep (h : JnM w0 wr g9 vN vA vF vG all t as' ws N) (hb : Below wr.heap.size wr w') : JnM w0 w' g9 vN vA vF vG all t as' ws N :=
 ⟨h.below.trans (hb.mono h.below.size), h.b9.below hb, own_below h.f hb, own_below h.g hb, own_below h.acc hb, own_below h.nxt hb,
  h.nxtR.keep (Kept.of_below hb (fun _ => False)) (fun _ _ _ e => e.elim) (fun _ _ x => x) (Nat.le_refl _), h.sep, h.nF, h.nG, h.ge⟩
theorem JnM.weak {N' : Nat → Prop} (h : JnM w0 wr g9 vN vA vF vG all t as' ws N) (hN : ∀ g, g < wr.heap.size → N g → N' g) (hF : ∀ k, N' k → vF.ownBlock ≠ some k) (hG : ∀ k, N' k → vG.ownBlock ≠ some k) : JnM w0 wr g9 vN vA vF vG all t as' ws N' :=
 ⟨h.below, h.b9, h.f, h.g, h.acc, h.nxt, h.nxtR.keep (Kept.refl wr (fun _ => False)) (fun _ _ _ e => e.elim) hN (Nat.le_refl _), h.sep, hF, hG, h.ge⟩
theorem JnM.row {v : Value} {n : Nat} {xs : List Value} (h : JnM w0 wr g9 vN vA vF vG all t as' ws N) (hr : wr.ownsRow w0.heap.size 3 1 v n xs) (hN : ∀ g, N g → v.ownBlock ≠ some g) (hF : ∀ k, vF.ownBlock = some k → v.ownBlock ≠ some k) (hG : ∀ k, vG.ownBlock = some k → v.ownBlock ≠ some k) (hk : Kept wr w' (fun k => v.ownBlock = some k)) : JnM w0 w' g9 vN vA vF vG all t as' ws N := by
 have hty : ∀ {e : TypeId}, e ≠ 3 → ∀ g cs, v.ownBlock = some g → ¬ Blk wr g e cs := fun h1 g cs e1 hB => own_blk_ne hr hB (fun hh => h1 hh.symm) e1
 exact ⟨h.below.trans (hk.below h.below.size fun b hb e => by have := own_base hr e; omega), h.b9.kept hk fun x => hty (by decide) _ _ x h.b9, hk.ownsRow h.f fun k hk1 e => hF k hk1 e, hk.ownsRow h.g fun k hk1 e => hG k hk1 e,
  own_ty hk h.acc (hty (by decide)), own_ty hk h.nxt (hty (by decide)), h.nxtR.keep hk (fun g cs hn x _ => hN g hn x) (fun _ _ x => x) (Nat.le_refl _), h.sep, h.nF, h.nG, h.ge⟩
theorem JnM.add {p : Nat × Nat} {w2 : World} {vF' vG' : Value} (h : JnM w0 wr g9 vN vA vF vG all t as' ws N) (hNl : ∀ k, N k → k < wr.heap.size) (hk1 : Kept wr w1 (fun k => vF.ownBlock = some k)) (ho1 : w1.ownsRow w0.heap.size 3 1 vF' (all.length + 1) ((natL (fst' all)).map (Value.int .i64) ++ [.int .i64 (p.1 : Int)])) (hm1 : Moved wr vF vF')
  (hk2 : Kept w1 w2 (fun k => vG.ownBlock = some k)) (ho2 : w2.ownsRow w0.heap.size 3 1 vG' (all.length + 1) ((natL (snd' all)).map (Value.int .i64) ++ [.int .i64 (p.2 : Int)])) (hm2 : Moved w1 vG vG') : JnM w0 w2 g9 vN vA vF' vG' (all ++ [p]) t as' ws N := by
 have hall : Kept wr w2 (fun k => vF.ownBlock = some k ∨ vG.ownBlock = some k) := (hk1.mono fun _ _ e => .inl e).trans hk2 fun _ _ e => .inr e
 have hty : ∀ {e : TypeId}, e ≠ 3 → ∀ g cs, (vF.ownBlock = some g ∨ vG.ownBlock = some g) → ¬ Blk wr g e cs := by
  rintro e h1 g cs (e1 | e1) hB
  ·exact own_blk_ne h.f hB (fun hh => h1 hh.symm) e1
  ·exact own_blk_ne h.g hB (fun hh => h1 hh.symm) e1
 have hs1 := hk1.size
 have hgl : ∀ k, vG.ownBlock = some k → k < wr.heap.size := fun k hk => own_lt h.g hk
 have hFG : ∀ k, vF'.ownBlock = some k → vG.ownBlock ≠ some k := fun k hk hg => by
  rcases hm1 with hh | ⟨g', hh, hlt⟩
  ·exact h.sep k (by rw [← hh]; exact hk) hg
  ·rw [hk] at hh
   have := Option.some.inj hh
   have := hgl k hg
   omega
 have hF2 : w2.ownsRow w0.heap.size 3 1 vF' (all.length + 1) ((natL (fst' all)).map (Value.int .i64) ++ [.int .i64 (p.1 : Int)]) := hk2.ownsRow ho1 fun k hk e => hFG k hk e
 refine ⟨h.below.trans (hall.below h.below.size ?_), h.b9.kept hall fun x => hty (by decide) _ _ x h.b9, ?_, ?_, own_ty hall h.acc (hty (by decide)), own_ty hall h.nxt (hty (by decide)), h.nxtR.keep hall ?_ (fun _ _ x => x) (Nat.le_refl _), ?_, ?_, ?_, h.ge⟩
 ·rintro b hb (e | e)
  ·have := own_base h.f e; omega
  ·have := own_base h.g e; omega
 ·rw [List.length_append]
  unfold fst' at hF2 ⊢
  rw [List.map_append, natL, List.map_append, List.map_append]
  exact hF2
 ·rw [List.length_append]
  unfold snd' at ho2 ⊢
  rw [List.map_append, natL, List.map_append, List.map_append]
  exact ho2
 ·rintro g cs hn (e | e) _
  ·exact h.nF g hn e
  ·exact h.nG g hn e
 ·intro k hk hg
  rcases hm2 with hh | ⟨g', hh, hlt⟩
  ·exact hFG k hk (by rw [← hh]; exact hg)
  ·rw [hg] at hh
   have := Option.some.inj hh
   have := own_lt ho1 hk
   omega
 ·intro k hn hk
  rcases hm1 with hh | ⟨g', hh, hlt⟩
  ·exact h.nF k hn (by rw [← hh]; exact hk)
  ·rw [hk] at hh
   have := Option.some.inj hh
   have := hNl k hn
   omega
 ·intro k hn hk
  rcases hm2 with hh | ⟨g', hh, hlt⟩
  ·exact h.nG k hn (by rw [← hh]; exact hk)
  ·rw [hk] at hh
   have := Option.some.inj hh
   have := hNl k hn
   omega
theorem JnM.addR {row : List Nat} {v vN' : Value} {N' : Nat → Prop} (h : JnM w0 wr g9 vN vA vF vG all t as' ws N) (hr : wr.ownsRow w0.heap.size 3 1 v row.length ((natL row).map (Value.int .i64)))
  (hk1 : Kept wr w1 (fun k => vN.ownBlock = some k)) (ho : w1.ownsRow w0.heap.size 22 1 vN' (t.length + 1) (ws ++ [v])) (hN : ∀ g, N g → N' g) (hv : ∀ g, v.ownBlock = some g → N' g) (hF : ∀ k, N' k → vF.ownBlock ≠ some k) (hG : ∀ k, N' k → vG.ownBlock ≠ some k) :
  JnM w0 (w1.setCell ⟨g9, 0, none⟩ vN') g9 vN' vA vF vG all (t ++ [row]) as' (ws ++ [v]) N' := by
 have n6 := h.b9.kept hk1 (own_blk_ne h.nxt h.b9 (by decide))
 have hk2 := (Kept.refl w1 (fun k => k = g9)).setCell (p := ⟨g9, 0, none⟩) (fun _ => rfl) vN'
 have hall : Kept wr (w1.setCell ⟨g9, 0, none⟩ vN') (fun k => vN.ownBlock = some k ∨ k = g9) := (hk1.mono fun _ _ e => .inl e).trans hk2 fun _ _ e => .inr e
 have hty : ∀ {e : TypeId}, e ≠ 22 → e ≠ 77 → ∀ g cs, (vN.ownBlock = some g ∨ g = g9) → ¬ Blk wr g e cs := by
  rintro e h1 h2 g cs (e1 | e1) hB
  ·exact own_blk_ne h.nxt hB (fun hh => h1 hh.symm) e1
  ·exact hB.ne_ h.b9 h2 e1
 refine ⟨h.below.trans (hall.below h.below.size ?_), n6.set_ 0 vN', own_ty hall h.f (hty (by decide) (by decide)), own_ty hall h.g (hty (by decide) (by decide)), own_ty hall h.acc (hty (by decide) (by decide)), ?_, ?_, h.sep, hF, hG, h.ge⟩
 ·rintro b hb (e | e)
  ·have := own_base h.nxt e; omega
  ·have := h.ge; omega
 ·rw [List.length_append]
  exact own_ty hk2 ho (fun g cs e hB => by subst e; exact hB.ne_ n6 (by decide) rfl)
 ·rw [List.map_append]
  refine RowsI.snoc (h.nxtR.keep hall (fun g cs _ e => hty (by decide) (by decide) g cs e) (fun g _ x => hN g x) (Nat.le_refl _)) ?_ hv
  have := own_ty hall hr (hty (by decide) (by decide))
  have el : (natL row).length = row.length := by simp [natL]
  rw [el]
  exact this
theorem JnM.addA {b : Bool} {vA' : Value} (h : JnM w0 wr g9 vN vA vF vG all t as' ws N) (hk1 : Kept wr w1 (fun k => vA.ownBlock = some k)) (ho : w1.ownsRow w0.heap.size 4 1 vA' (as'.length + 1) (as'.map Value.bool ++ [.bool b])) :
  JnM w0 (w1.setCell ⟨g9, 1, none⟩ vA') g9 vN vA' vF vG all t (as' ++ [b]) ws N := by
 have n6 := h.b9.kept hk1 (own_blk_ne h.acc h.b9 (by decide))
 have hk2 := (Kept.refl w1 (fun k => k = g9)).setCell (p := ⟨g9, 1, none⟩) (fun _ => rfl) vA'
 have hall : Kept wr (w1.setCell ⟨g9, 1, none⟩ vA') (fun k => vA.ownBlock = some k ∨ k = g9) := (hk1.mono fun _ _ e => .inl e).trans hk2 fun _ _ e => .inr e
 have hty : ∀ {e : TypeId}, e ≠ 4 → e ≠ 77 → ∀ g cs, (vA.ownBlock = some g ∨ g = g9) → ¬ Blk wr g e cs := by
  rintro e h1 h2 g cs (e1 | e1) hB
  ·exact own_blk_ne h.acc hB (fun hh => h1 hh.symm) e1
  ·exact hB.ne_ h.b9 h2 e1
 refine ⟨h.below.trans (hall.below h.below.size ?_), n6.set_ 1 vA', own_ty hall h.f (hty (by decide) (by decide)), own_ty hall h.g (hty (by decide) (by decide)), ?_, own_ty hall h.nxt (hty (by decide) (by decide)), h.nxtR.keep hall (fun g cs _ e => hty (by decide) (by decide) g cs e) (fun _ _ x => x) (Nat.le_refl _), h.sep, h.nF, h.nG, h.ge⟩
 ·rintro b hb (e | e)
  ·have := own_base h.acc e; omega
  ·have := h.ge; omega
 ·rw [List.length_append, List.map_append]
  exact own_ty hk2 ho (fun g cs e hB => by subst e; exact hB.ne_ n6 (by decide) rfl)
theorem JnM.at (h : JnM w0 wr g9 vN vA vF vG all t as' ws N) {k : Nat} {p : Nat × Nat} (hk : all[k]? = some p) : ∃ gF cF gG cG, vF = .slice (some ⟨gF, 0, none⟩) all.length cF ∧ vG = .slice (some ⟨gG, 0, none⟩) all.length cG ∧ wr.cell? ⟨gF, k, none⟩ = some (.int .i64 (p.1 : Int)) ∧ wr.cell? ⟨gG, k, none⟩ = some (.int .i64 (p.2 : Int)) := by
 obtain ⟨gF, cF, e1, e2⟩ := own_get h.f (map_get (f := Value.int .i64) (map_get (f := fun x : Nat => (x : Int)) (map_get (f := Prod.fst) hk)))
 obtain ⟨gG, cG, e3, e4⟩ := own_get h.g (map_get (f := Value.int .i64) (map_get (f := fun x : Nat => (x : Int)) (map_get (f := Prod.snd) hk)))
 exact ⟨gF, cF, gG, cG, e1, e3, e2, e4⟩
end
end Go.Proofs.YtakpmdmjbgipiaaGreatDoor
namespace Go.Proofs.YtakpmdmjbgipiaaGreatDoor
open Go.RowKit
set_option maxHeartbeats 16000000
set_option maxRecDepth 100000
theorem jn_k {w0 w : World} {g9 n cF cG u v : Nat} {vN vA : Value} {AF AG : Option Addr} {all : List (Nat × Nat)} {t : List (List Nat)} {as' : List Bool} {ws : List Value} {N : Nat → Prop}
  (hM : JnM w0 w g9 vN vA (.slice AF n cF) (.slice AG n cG) all t as' ws N) (hn : n = all.length) (hn9 : n ≤ 1000000)
  {u0 u1 u2 u3 u4 u5 u6 u7 u8 u9 u12 u13 u14 u18 u19 u20 u21 u22 u23 u24 u25 u26 u27 u28 u29 u30 u31 u32 u33 u34 u35 u36 u37 u38 u39 u40 u41 u42 u43 u44 u45 u46 u47 u48 u49 u50 u51 u52 u53 u54 u55 u56 u57 u58 u59 u60 u61 u62 u63 u64 u65 u66 u67 u68 u69 u70 u71 u72 u73 u74 u75 u76 u77 u78 u79 u80 u81 u82 u83 u84 u85 u86 u87 u88 u89 u90 u91 u92 u93 u94 u95 u96 u97 u98 u99 u100 u101 u102 u103 u104 u105 u106 u107 u108 u109 u110 u111 u112 u113 u114 u115 u116 u117 u118 u119 u120 u121 u122 u123 u124 u125 u126 u127 u128 u129 : Value}
  {Q : Exit → Act → World → Prop}
  (hQ : ∀ (x62 x63 x64 x65 x66 x67 x68 x69 x70 x71 x72 x73 x74 x75 x76 x77 x78 x79 x80 x81 x82 x83 : Value) (k : Nat), k ≤ n → (∀ p, p < k → all[p]? ≠ some (u, v)) → (∀ y, all[k]? = some y → y = (u, v)) →
   Q (.exit 4) ⟨List.toArray (u0 :: u1 :: u2 :: u3 :: u4 :: u5 :: u6 :: u7 :: u8 :: u9 :: (.slice AF n cF) :: (.slice AG n cG) :: u12 :: u13 :: u14 :: (.int .i64 (u : Int)) :: (.int .i64 (v : Int)) :: (.int .i64 k) :: u18 :: u19 :: u20 :: u21 :: u22 :: u23 :: u24 :: u25 :: u26 :: u27 ::
   u28 :: u29 :: u30 :: u31 :: u32 :: u33 :: u34 :: u35 :: u36 :: u37 :: u38 :: u39 :: u40 :: u41 :: u42 :: u43 :: u44 :: u45 :: u46 :: u47 :: u48 :: u49 :: u50 :: u51 :: u52 :: u53 :: u54 :: u55 :: u56 :: u57 :: u58 :: u59 :: u60 :: u61 :: x62 :: x63 :: x64 ::
   x65 :: x66 :: x67 :: x68 :: x69 :: x70 :: x71 :: x72 :: x73 :: x74 :: x75 :: x76 :: x77 :: x78 :: x79 :: x80 :: x81 :: x82 :: x83 :: u84 :: u85 :: u86 :: u87 :: u88 :: u89 :: u90 :: u91 :: u92 :: u93 :: u94 :: u95 :: u96 :: u97 :: u98 :: u99 :: u100 :: u101 ::
   u102 :: u103 :: u104 :: u105 :: u106 :: u107 :: u108 :: u109 :: u110 :: u111 :: u112 :: u113 :: u114 :: u115 :: u116 :: u117 :: u118 :: u119 :: u120 :: u121 :: u122 :: u123 :: u124 :: u125 :: u126 :: u127 :: u128 :: u129 :: []), []⟩ w) :
  (Code.loop (loopBody Tryz.f40 2)).wp Tryz.prog Q ⟨List.toArray (u0 :: u1 :: u2 :: u3 :: u4 :: u5 :: u6 :: u7 :: u8 :: u9 :: (.slice AF n cF) :: (.slice AG n cG) :: u12 :: u13 :: u14 :: (.int .i64 (u : Int)) :: (.int .i64 (v : Int)) :: (.int .i64 0) :: u18 :: u19 :: u20 :: u21 :: u22 :: u23 :: u24 :: u25 :: u26 :: u27 ::
   u28 :: u29 :: u30 :: u31 :: u32 :: u33 :: u34 :: u35 :: u36 :: u37 :: u38 :: u39 :: u40 :: u41 :: u42 :: u43 :: u44 :: u45 :: u46 :: u47 :: u48 :: u49 :: u50 :: u51 :: u52 :: u53 :: u54 :: u55 :: u56 :: u57 :: u58 :: u59 :: u60 :: u61 :: u62 :: u63 :: u64 ::
   u65 :: u66 :: u67 :: u68 :: u69 :: u70 :: u71 :: u72 :: u73 :: u74 :: u75 :: u76 :: u77 :: u78 :: u79 :: u80 :: u81 :: u82 :: u83 :: u84 :: u85 :: u86 :: u87 :: u88 :: u89 :: u90 :: u91 :: u92 :: u93 :: u94 :: u95 :: u96 :: u97 :: u98 :: u99 :: u100 :: u101 ::
   u102 :: u103 :: u104 :: u105 :: u106 :: u107 :: u108 :: u109 :: u110 :: u111 :: u112 :: u113 :: u114 :: u115 :: u116 :: u117 :: u118 :: u119 :: u120 :: u121 :: u122 :: u123 :: u124 :: u125 :: u126 :: u127 :: u128 :: u129 :: []), []⟩ w := by
 conv => arg 2; arg 1; whnf
 have hMH := hide hM
 have hnH := hide hn
 clear hM hn
 go_loopw [17] (fun kk wr => ∃ (k : Nat), kk = .int .i64 (k : Int) ∧ k ≤ n ∧ wr = w ∧ Hid (∀ p, p < k → all[p]? ≠ some (u, v))) (fun kk _ => n - (intOf kk).toNat)
 case atStart => exact ⟨0, rfl, Nat.zero_le _, rfl, fun p h => absurd h (by omega)⟩
 case round =>
  obtain ⟨k, rfl, hk, rfl, hE⟩ := hrel
  by_cases hlt : k < n
  ·obtain ⟨⟨a, b⟩, hx⟩ := get_lt (l := all) (i := k) (by rw [← hnH.out]; exact hlt)
   obtain ⟨gF, cF', gG, cG', e1, e2, e3, e4⟩ := hMH.out.at hx
   injection e1 with e1 e11 e12
   injection e2 with e2 e21 e22
   subst e1 e2 e12 e22
   dsimp only at e3 e4
   have hxH := hide hx
   clear hx e11 e21
   have hnext : (a, b) ≠ (u, v) → Hid (∀ p, p < k + 1 → all[p]? ≠ some (u, v)) := fun hne p hp => by
    by_cases e : p = k
    ·subst e
     rw [hxH.out]
     exact fun h => hne (Option.some.inj h)
    ·exact hE.out p (by omega)
   by_cases ha : a = u
   ·by_cases hb : b = v
    ·have hfin := hide (show ∀ y, all[k]? = some y → y = (u, v) from fun y hy => by
      rw [hxH.out] at hy
      rw [← Option.some.inj hy, ha, hb])
     subst ha hb
     have h1 : ((a : Int) == (a : Int)) = true := by simp
     have h2 : ((b : Int) == (b : Int)) = true := by simp
     clear hnext
     go_wp2_with fail
     refine hQ _ _ _ _ _ _ _ _ _ _ _ _ _ _ _ _ _ _ _ _ _ _ k hk hE.out hfin.out
    ·have hst := hnext (fun e => hb (congrArg Prod.snd e))
     have h2 : ((b : Int) == (v : Int)) = false := by simp; omega
     subst ha
     have h1 : ((a : Int) == (a : Int)) = true := by simp
     clear hnext
     go_wp2_with fail
     exact ⟨⟨k + 1, by go_num, by omega, (by first | rfl | trivial), hst⟩, by simp [intOf]; omega⟩
   ·have hst := hnext (fun e => ha (congrArg Prod.fst e))
    have h1 : ((a : Int) == (u : Int)) = false := by simp; omega
    clear hnext
    go_wp2_with fail
    exact ⟨⟨k + 1, by go_num, by omega, (by first | rfl | trivial), hst⟩, by simp [intOf]; omega⟩
  ·obtain rfl : k = n := by omega
   go_wp2_with fail
   refine hQ _ _ _ _ _ _ _ _ _ _ _ _ _ _ _ _ _ _ _ _ _ _ k (Nat.le_refl _) hE.out (fun y hy => ?_)
   have := lt_of_get hy
   have := hnH.out
   omega
end Go.Proofs.YtakpmdmjbgipiaaGreatDoor
namespace Go.Proofs.YtakpmdmjbgipiaaGreatDoor
open Go.RowKit
set_option maxHeartbeats 16000000
set_option maxRecDepth 100000
structure JnX (w0 wr : World) (g9 : Nat) (vN vA vF vG : Value) (all : List (Nat × Nat)) (t : List (List Nat)) (as' : List Bool) (ws : List Value) (N : Nat → Prop) (rr : Value) : Prop where
 mem : JnM w0 wr g9 vN vA vF vG all t as' ws N
 nl : ∀ k, N k → k < wr.heap.size
 nr : ∀ k, N k → rr.ownBlock ≠ some k
 fr : ∀ k, vF.ownBlock = some k → rr.ownBlock ≠ some k
 gr : ∀ k, vG.ownBlock = some k → rr.ownBlock ≠ some k
section
variable {w0 wr w' w1 w2 : World} {g9 n : Nat} {vN vA vF vG vF' vG' rr rr' : Value} {all : List (Nat × Nat)} {t : List (List Nat)} {as' : List Bool} {ws xs : List Value} {N : Nat → Prop} {p : Nat × Nat}
theorem JnX.keep (h : JnX w0 wr g9 vN vA vF vG all t as' ws N rr) (hb : Below wr.heap.size wr w') : JnX w0 w' g9 vN vA vF vG all t as' ws N rr :=
 ⟨h.mem.keep hb, fun k hk => Nat.lt_of_lt_of_le (h.nl k hk) hb.size, h.nr, h.fr, h.gr⟩
theorem JnX.add (h : JnX w0 wr g9 vN vA vF vG all t as' ws N rr) (hr : wr.ownsRow w0.heap.size 3 1 rr n xs) (hk1 : Kept wr w1 (fun k => vF.ownBlock = some k)) (ho1 : w1.ownsRow w0.heap.size 3 1 vF' (all.length + 1) ((natL (fst' all)).map (Value.int .i64) ++ [.int .i64 (p.1 : Int)])) (hm1 : Moved wr vF vF')
  (hk2 : Kept w1 w2 (fun k => vG.ownBlock = some k)) (ho2 : w2.ownsRow w0.heap.size 3 1 vG' (all.length + 1) ((natL (snd' all)).map (Value.int .i64) ++ [.int .i64 (p.2 : Int)])) (hm2 : Moved w1 vG vG') : JnX w0 w2 g9 vN vA vF' vG' (all ++ [p]) t as' ws N rr ∧ w2.ownsRow w0.heap.size 3 1 rr n xs := by
 have s1 := hk1.size
 have s2 := hk2.size
 refine ⟨⟨h.mem.add h.nl hk1 ho1 hm1 hk2 ho2 hm2, fun k hk => ?_, h.nr, fun k hk e => ?_, fun k hk e => ?_⟩, hk2.ownsRow (hk1.ownsRow hr fun k hk e => h.fr k e hk) fun k hk e => h.gr k e hk⟩
 ·have := h.nl k hk
  omega
 ·rcases hm1 with hh | ⟨g', hh, hlt⟩
  ·exact h.fr k (by rw [← hh]; exact hk) e
  ·rw [hk] at hh
   have := Option.some.inj hh
   have := own_lt hr e
   omega
 ·rcases hm2 with hh | ⟨g', hh, hlt⟩
  ·exact h.gr k (by rw [← hh]; exact hk) e
  ·rw [hk] at hh
   have := Option.some.inj hh
   have := own_lt hr e
   omega
theorem JnX.app (h : JnX w0 wr g9 vN vA vF vG all t as' ws N rr) (hr : wr.ownsRow w0.heap.size 3 1 rr n xs) (hk : Kept wr w' (fun k => rr.ownBlock = some k)) (hmv : Moved wr rr rr') : JnX w0 w' g9 vN vA vF vG all t as' ws N rr' := by
 have s1 := hk.size
 refine ⟨h.mem.row hr h.nr h.fr h.gr hk, fun k hk' => ?_, fun k hk' e => ?_, fun k hk' e => ?_, fun k hk' e => ?_⟩
 ·have := h.nl k hk'
  omega
 ·rcases hmv with hh | ⟨g', hh, hlt⟩
  ·exact h.nr k hk' (by rw [← hh]; exact e)
  ·rw [e] at hh
   have := Option.some.inj hh
   have := h.nl k hk'
   omega
 ·rcases hmv with hh | ⟨g', hh, hlt⟩
  ·exact h.fr k hk' (by rw [← hh]; exact e)
  ·rw [e] at hh
   have := Option.some.inj hh
   have := own_lt h.mem.f hk'
   omega
 ·rcases hmv with hh | ⟨g', hh, hlt⟩
  ·exact h.gr k hk' (by rw [← hh]; exact e)
  ·rw [e] at hh
   have := Option.some.inj hh
   have := own_lt h.mem.g hk'
   omega
end
theorem jn_x {w0 w : World} {g3 g7 g8 g9 i n1 n2 cF cG L : Nat} {s1 s2 s3 s4 vN vA v7 a7 v8 a8 : Value} {AF AG : Option Addr} {t u : List (List Nat)} {ac bc : List Bool} {all : List (Nat × Nat)} {tt : List (List Nat)} {as' : List Bool} {ws : List Value} {N : Nat → Prop} {p : Nat × Nat}
    (hM : JnX w0 w g9 vN vA (.slice AF all.length cF) (.slice AG all.length cG) all tt as' ws N (.slice none 0 0)) (hT : TabF w0 L n1 v7 a7 t ac) (hT' : TabF w0 L n2 v8 a8 u bc) (h3 : Blk w0 g3 28 #[.int .i64 (L : Int), s1, s2, s3, s4]) (h7 : Blk w0 g7 77 #[v7, a7]) (h8 : Blk w0 g8 77 #[v8, a8])
    (hL : L ≤ 8) (hq : all[i]? = some p) (hp1 : p.1 < n1) (hp2 : p.2 < n2) (hal : all.length ≤ 900000)
    {u0 u1 u2 u4 u5 u6 u9 u15 u16 u17 u18 u19 u20 u21 u22 u23 u24 u25 u26 u27 u28 u29 u30 u31 u32 u33 u34 u35 u36 u37 u38 u39 u40 u41 u42 u43 u44 u45 u46 u47 u48 u49 u50 u51 u52 u53 u54 u55 u56 u57 u58 u59 u60 u61 u62 u63 u64 u65 u66 u67 u68 u69 u70 u71 u72 u73 u74 u75 u76 u77 u78 u79 u80 u81 u82 u83 u84 u85 u86 u87 u88 u89 u90 u91 u92 u93 u94 u95 u96 u97 u98 u99 u100 u101 u102 u103 u104 u105 u106 u107 u108 u109 u110 u111 u112 u113 u114 u115 u116 u117 u118 u119 u120 u121 u122 u123 u124 u125 u126 u127 u128 u129 : Value}
    {Q : Exit → Act → World → Prop} (hN : Reg.NoQ Q)
    (hQ : ∀ (x14 x15 x16 x17 x34 x35 x36 x37 x38 x39 x40 x41 x42 x43 x44 x45 x46 x47 x48 x49 x50 x51 x52 x53 x54 x55 x56 x57 x58 x59 x60 x61 x62 x63 x64 x65 x66 x67 x68 x69 x70 x71 x72 x73 x74 x75 x76 x77 x78 x79 x80 x81 x82 x83 x84 x85 x86 x87 x88 x89 x90 x91 x92 x93 x94 x95 x96 x97 x98 x99 : Value) (w' : World) (vF' vG' vR : Value) (all' : List (Nat × Nat)), JnX w0 w' g9 vN vA vF' vG' all' tt as' ws N vR → w'.ownsRow w0.heap.size 3 1 vR L ((natL (rowQ (dPr t u) all' p L)).map (Value.int .i64)) → all' = rowL (dPr t u) p all L →
      Q (.exit 2) ⟨List.toArray (u0 :: u1 :: u2 :: (.pointer (some ⟨g3, 0, none⟩)) :: u4 :: u5 :: u6 :: (.pointer (some ⟨g7, 0, none⟩)) :: (.pointer (some ⟨g8, 0, none⟩)) :: u9 :: vF' :: vG' :: (.int .i64 i) :: vR :: x14 :: x15 :: x16 :: x17 :: u18 :: u19 :: u20 :: u21 :: u22 :: u23 :: u24 ::
      u25 :: u26 :: u27 :: u28 :: u29 :: u30 :: u31 :: u32 :: u33 :: x34 :: x35 :: x36 :: x37 :: x38 :: x39 :: x40 :: x41 :: x42 :: x43 :: x44 :: x45 :: x46 :: x47 :: x48 :: x49 :: x50 :: x51 :: x52 :: x53 :: x54 :: x55 :: x56 :: x57 :: x58 :: x59 :: x60 :: x61 ::
      x62 :: x63 :: x64 :: x65 :: x66 :: x67 :: x68 :: x69 :: x70 :: x71 :: x72 :: x73 :: x74 :: x75 :: x76 :: x77 :: x78 :: x79 :: x80 :: x81 :: x82 :: x83 :: x84 :: x85 :: x86 :: x87 :: x88 :: x89 :: x90 :: x91 :: x92 :: x93 :: x94 :: x95 :: x96 :: x97 :: x98 ::
      x99 :: u100 :: u101 :: u102 :: u103 :: u104 :: u105 :: u106 :: u107 :: u108 :: u109 :: u110 :: u111 :: u112 :: u113 :: u114 :: u115 :: u116 :: u117 :: u118 :: u119 :: u120 :: u121 :: u122 :: u123 :: u124 :: u125 :: u126 :: u127 :: u128 :: u129 :: []), []⟩ w') :
    (Code.loop (loopBody Tryz.f40 1)).wp Tryz.prog Q ⟨List.toArray (u0 :: u1 :: u2 :: (.pointer (some ⟨g3, 0, none⟩)) :: u4 :: u5 :: u6 :: (.pointer (some ⟨g7, 0, none⟩)) :: (.pointer (some ⟨g8, 0, none⟩)) :: u9 :: (.slice AF all.length cF) :: (.slice AG all.length cG) :: (.int .i64 i) :: (.slice none 0 0) :: (.int .i64 0) ::
      u15 :: u16 :: u17 :: u18 :: u19 :: u20 :: u21 :: u22 :: u23 :: u24 :: u25 :: u26 :: u27 :: u28 :: u29 :: u30 :: u31 :: u32 :: u33 :: u34 :: u35 :: u36 :: u37 :: u38 :: u39 :: u40 :: u41 :: u42 :: u43 :: u44 :: u45 :: u46 :: u47 :: u48 :: u49 :: u50 :: u51 ::
      u52 :: u53 :: u54 :: u55 :: u56 :: u57 :: u58 :: u59 :: u60 :: u61 :: u62 :: u63 :: u64 :: u65 :: u66 :: u67 :: u68 :: u69 :: u70 :: u71 :: u72 :: u73 :: u74 :: u75 :: u76 :: u77 :: u78 :: u79 :: u80 :: u81 :: u82 :: u83 :: u84 :: u85 :: u86 :: u87 :: u88 ::
      u89 :: u90 :: u91 :: u92 :: u93 :: u94 :: u95 :: u96 :: u97 :: u98 :: u99 :: u100 :: u101 :: u102 :: u103 :: u104 :: u105 :: u106 :: u107 :: u108 :: u109 :: u110 :: u111 :: u112 :: u113 :: u114 :: u115 :: u116 :: u117 :: u118 :: u119 :: u120 :: u121 :: u122 ::
      u123 :: u124 :: u125 :: u126 :: u127 :: u128 :: u129 :: []), []⟩ w := by
  conv => arg 2; arg 1; whnf
  obtain ⟨tb, to, tc, rfl, htb, htr⟩ := hT.at
  obtain ⟨ub, uo, uc, rfl, hub, hur⟩ := hT'.at
  obtain ⟨At, ct, hct, htx⟩ := htr p.1 hp1
  obtain ⟨Au, cu, hcu, hux⟩ := hur p.2 hp2
  have hMH := hide hM
  have h3H := hide h3
  have h7H := hide h7
  have h8H := hide h8
  have hqH := hide hq
  have hctH := hide hct
  have hcuH := hide hcu
  have htxH := hide htx
  have huxH := hide hux
  clear hM h3 h7 h8 hq hct hcu htx hux htr hur hT hT'
  go_loopw [10, 11, 13, 14] (fun ff gg rr xx wr => ∃ (x : Nat) (all' : List (Nat × Nat)), xx = .int .i64 (x : Int) ∧ x ≤ L ∧ Hid (JnX w0 wr g9 vN vA ff gg all' tt as' ws N rr) ∧ Hid (wr.ownsRow w0.heap.size 3 1 rr x ((natL (rowQ (dPr t u) all' p x)).map (Value.int .i64))) ∧ Hid (all' = rowL (dPr t u) p all x)) (fun _ _ _ xx _ => L - (intOf xx).toNat)
  case atStart => exact ⟨0, all, rfl, Nat.zero_le _, hMH, hide own_nil, hide rfl⟩
  case round =>
    obtain ⟨x, all', rfl, hx, hI, hR, hk⟩ := hrel
    obtain ⟨AF', cF', rfl⟩ := slice_of_own hI.out.mem.f
    obtain ⟨AG', cG', rfl⟩ := slice_of_own hI.out.mem.g
    obtain ⟨AR, cR, rfl⟩ := slice_of_own hR.out
    have h0 := hI.out.mem.below
    have hc3 := (h3H.out.below h0).cell
    have hc7 := (h7H.out.below h0).cell
    have hc8 := (h8H.out.below h0).cell
    by_cases hxL : x < L
    · have hq' : all'[i]? = some p := by rw [hk.out]; exact prefix_get (rowL_pre _ _ _) hqH.out
      have hil := lt_of_get hq'
      have hlen : all'.length ≤ 900008 := by
        rw [hk.out]
        have := rowL_le2 (dPr t u) p all x
        omega
      obtain ⟨gF, c1, gG, c2, e1, e2, e3, e4⟩ := hI.out.mem.at hq'
      injection e1 with e1 e11 e12
      injection e2 with e2 e21 e22
      subst e1 e2 e12 e22
      obtain ⟨b2, o2, rfl, hb2, hy, hylt⟩ := htxH.out x hxL
      obtain ⟨b3, o3, rfl, hb3, hz, hzlt⟩ := huxH.out x hxL
      have hy1 := (h0.cell (p := ⟨b2, o2 + x, none⟩) hb2).trans hy
      have hz1 := (h0.cell (p := ⟨b3, o3 + x, none⟩) hb3).trans hz
      have hct1 := (h0.cell (p := ⟨tb, to + p.1, none⟩) htb).trans hctH.out
      have hcu1 := (h0.cell (p := ⟨ub, uo + p.2, none⟩) hub).trans hcuH.out
      obtain ⟨a, hae⟩ : ∃ a, a = dnx t p.1 x := ⟨_, rfl⟩
      obtain ⟨b, hbe⟩ : ∃ b, b = dnx u p.2 x := ⟨_, rfl⟩
      rw [← hae] at hy1
      rw [← hbe] at hz1
      have hd : Hid (dPr t u p x = (a, b)) := by show (_, _) = _; rw [hae, hbe]
      obtain ⟨n', hn'⟩ : ∃ n', n' = all'.length := ⟨_, rfl⟩
      rw [← hn'] at hlen hil ⊢
      have hnH := hide hn'
      clear hq' h0 hy hz hae hbe hn' e11 e21
      go_wp2_with fail
      refine Reg.cP [0, 1, 0, 0, 12, 28, 63, 127, 0, 511, 1023, 0, 2048, 0, 0, 24576, 57344, 129024, 260096, 0, 1046528, 2095104, 2047, 8388607] ?_ (by kernel_rfl) (by repeat (first | exact hN | refine Reg.NoQ.then ?_ | refine Reg.NoQ.inBlock ?_))
      go_wp2_with fail
      have hId := hide (hI.out.keep (drewB wr))
      have hRd := hide (own_below hR.out (drewB wr))
      clear hI hR
      have hI := hId
      have hR := hRd
      clear hId hRd
      refine jn_k (u := a) (v := b) (by rw [hnH.out]; exact hI.out.mem) hnH.out (by omega) ?_
      iterate 22 (intro _)
      intro k hkm hno hyes
      have hnoH := hide hno
      have hyesH := hide hyes
      have hrs := hide (rowQ_succ (dPr t u) all p x)
      have hrr := hR.out
      have hsz := hI.out.mem.below.size
      have hx1 : x + 1 ≤ 4000000 := by omega
      clear hno hyes
      by_cases hkl : k < n'
      · obtain ⟨s, hs⟩ := get_lt (l := all') (i := k) (by rw [← hnH.out]; exact hkl)
        have hse := hyesH.out s hs
        subst hse
        have hmem : dPr t u p x ∈ all' := by rw [hd.out]; exact List.mem_of_getElem? hs
        have hpos : posL all' (dPr t u p x) = k := by rw [hd.out]; exact posL_first hs fun j hj => hnoH.out j hj
        have hne : ((k : Int) == (n' : Int)) = false := by simp; omega
        have hrow : Hid (all' = rowL (dPr t u) p all (x + 1)) := by
          show _ = _
          rw [rowL_succ, ← hk.out]
          unfold meetL
          rw [if_pos hmem]
        have hq2 : Hid (rowQ (dPr t u) all' p (x + 1) = rowQ (dPr t u) all' p x ++ [k]) := by
          show _ = _
          have h1 := hrs.out
          rw [← hrow.out, ← hk.out, hpos] at h1
          exact h1
        clear hs hpos hmem
        go_wp2_with (
          at_builtin
          refine wpList_app_new (w := wr.drew) row3 rfl _ _ rfl w0.heap.size (.slice AR x cR) x _ rfl hrr [.int .i64 (k : Int)] 1 rfl rfl (by simp [Value.oneCell']) hx1 hsz ?_
          intro g' cap' w7 hown7 hk7 hmv7 hg7
          have hI7 := hide (hI.out.app (rr' := .slice (some ⟨g', 0, none⟩) (x + 1) cap') hrr hk7 hmv7)
          have hO7 := hide hown7
          clear hown7 hk7 hmv7)
        refine ⟨⟨x + 1, all', by go_num, by omega, ?_, ?_, hrow⟩, by simp [intOf]; omega⟩
        · have := hI7.out
          rw [← hnH.out] at this
          exact this
        · rw [hq2.out, natL_snoc, List.map_append]
          exact hO7.out
      · obtain rfl : k = n' := by omega
        have hnew : dPr t u p x ∉ all' := by rw [hd.out]; exact not_mem_first fun j hj => hnoH.out j (by rw [hnH.out]; exact hj)
        have heq : ((k : Int) == (k : Int)) = true := by simp
        have hrow : Hid (all' ++ [(a, b)] = rowL (dPr t u) p all (x + 1)) := by
          show _ = _
          rw [rowL_succ, ← hk.out, ← hd.out]
          unfold meetL
          rw [if_neg hnew]
        have hpos : posL (all' ++ [(a, b)]) (dPr t u p x) = k := by
          rw [← hd.out, pos_new hnew, hnH.out]
        have hq2 : Hid (rowQ (dPr t u) (all' ++ [(a, b)]) p (x + 1) = rowQ (dPr t u) all' p x ++ [k]) := by
          show _ = _
          have h1 := hrs.out
          rw [← hrow.out, ← hk.out, hpos] at h1
          exact h1
        have hf := hI.out.mem.f
        have hg := hI.out.mem.g
        rw [← hnH.out] at hf hg
        have hk1 : k + 1 ≤ 4000000 := by omega
        clear hnew hpos
        go_wp2_with (
          at_builtin
          first
          | (refine wpList_app_new (w := wr.drew) row3 rfl _ _ rfl w0.heap.size (.slice (some ⟨gF, 0, none⟩) k cF') k _ rfl hf [.int .i64 (a : Int)] 1 rfl rfl (by simp [Value.oneCell']) hk1 hsz ?_
             intro g5 cap5 w5 hown5 hk5 hmv5 hg5
             have hg' := hk5.ownsRow hg fun q hq e => hI.out.mem.sep q (by rw [← hnH.out]; exact e) (by rw [← hnH.out]; exact hq)
             have hsz5 : w0.heap.size ≤ w5.heap.size := (by have := hk5.size; omega)
             have hown5H := hide hown5
             have hk5H := hide hk5
             have hmv5H := hide hmv5
             clear hown5 hk5 hmv5 hg5)
          | (refine wpList_app_new (w := w5) row3 rfl _ _ rfl w0.heap.size (.slice (some ⟨gG, 0, none⟩) k cG') k _ rfl hg' [.int .i64 (b : Int)] 1 rfl rfl (by simp [Value.oneCell']) hk1 hsz5 ?_
             intro g6 cap6 w6 hown6 hk6 hmv6 hg6
             obtain ⟨hI6, hrr6⟩ := hI.out.add (p := (a, b)) (vF' := .slice (some ⟨g5, 0, none⟩) (k + 1) cap5) (vG' := .slice (some ⟨g6, 0, none⟩) (k + 1) cap6) hrr (by rw [← hnH.out]; exact hk5H.out) (by rw [← hnH.out]; exact hown5H.out) (by rw [← hnH.out]; exact hmv5H.out) (by rw [← hnH.out]; exact hk6) (by rw [← hnH.out]; exact hown6) (by rw [← hnH.out]; exact hmv6)
             have hsz6 := hI6.mem.below.size
             have hI6H := hide hI6
             clear hown6 hk6 hmv6 hg6 hI6)
          | (refine wpList_app_new (w := w6) row3 rfl _ _ rfl w0.heap.size (.slice AR x cR) x _ rfl hrr6 [.int .i64 (k : Int)] 1 rfl rfl (by simp [Value.oneCell']) hx1 hsz6 ?_
             intro g' cap' w7 hown7 hk7 hmv7 hg7
             have hI7 := hide (hI6H.out.app (rr' := .slice (some ⟨g', 0, none⟩) (x + 1) cap') hrr6 hk7 hmv7)
             have hO7 := hide hown7
             clear hown7 hk7 hmv7))
        refine ⟨⟨x + 1, all' ++ [(a, b)], by go_num, by omega, hI7, ?_, hrow⟩, by simp [intOf]; omega⟩
        show World.ownsRow _ _ _ _ _ _ _
        rw [hq2.out, natL_snoc, List.map_append]
        exact hO7.out
    · obtain rfl : x = L := by omega
      have hIo := hI.out
      go_wp2_with fail
      refine hQ _ _ _ _ _ _ _ _ _ _ _ _ _ _ _ _ _ _ _ _ _ _ _ _ _ _ _ _ _ _ _ _ _ _ _ _ _ _ _ _ _ _ _ _ _ _ _ _ _ _ _ _ _ _ _ _ _ _ _ _ _ _ _ _ _ _ _ _ _ _ wr _ _ _ all' hIo hR.out hk.out
end Go.Proofs.YtakpmdmjbgipiaaGreatDoor
