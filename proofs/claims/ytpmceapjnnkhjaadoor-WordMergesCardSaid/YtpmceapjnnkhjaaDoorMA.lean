/-
  Part MA of a proof.
-/
import Derived.Test.YtpmceapjnnkhjaaDoorPA
import Derived.Test.YtpmceapjnnkhjaaDoorPF
import Derived.Test.YtpmceapjnnkhjaaDoorLV
set_option maxHeartbeats 16000000
set_option maxRecDepth 100000
set_option linter.unusedVariables false
set_option linter.unusedSimpArgs false
namespace Go.Proofs.YtpmceapjnnkhjaaDoor
open Go.RowKit
set_option maxHeartbeats 16000000
set_option maxRecDepth 100000
structure NetX (X : Nat → Prop) (w0 wr : World) (n L gn : Nat) (gi : Nat → Nat) (u : Nat → Nat → Value) (l : Nat → Nat → List Int) : Prop where
 kept : Kept w0 wr X
 top : Blk wr gn 50 (rangeC n fun s => .slice (some ⟨gi s, 0, none⟩) L L)
 row : ∀ s, s < n → Blk wr (gi s) 22 (rangeC L (u s)) ∧ w0.heap.size ≤ gi s
 inj : ∀ s, s < n → ∀ s', s' < n → gi s = gi s' → s = s'
 own : ∀ s, s < n → ∀ x, x < L → wr.ownsRow w0.heap.size 3 1 (u s x) (l s x).length ((l s x).map (Value.int .i64))
 sep : ∀ s, s < n → ∀ x, x < L → ∀ s', s' < n → ∀ x', x' < L → ∀ g, (u s x).ownBlock = some g → (u s' x').ownBlock = some g → s = s' ∧ x = x'
theorem NetS.toX {w0 wr : World} {n L gn : Nat} {gi : Nat → Nat} {u : Nat → Nat → Value} {l : Nat → Nat → List Int} (h : NetS w0 wr n L gn gi u l) {X : Nat → Prop} (hX : X gn) : NetX X w0 wr n L gn gi u l :=
 ⟨h.kept.mono fun b _ e => by rw [e]; exact hX, h.top, h.row, h.inj, h.own, h.sep⟩
section
variable {X : Nat → Prop} {w0 wr w2 : World} {n L gn : Nat} {gi : Nat → Nat} {u : Nat → Nat → Value} {l : Nat → Nat → List Int}
theorem NetX.keep (h : NetX X w0 wr n L gn gi u l) (hb : Below wr.heap.size wr w2) : NetX X w0 w2 n L gn gi u l :=
 ⟨h.kept.trans (Kept.of_below hb (fun _ => False)) fun _ _ e => e.elim, h.top.below hb, fun s hs => ⟨(h.row s hs).1.below hb, (h.row s hs).2⟩, h.inj, fun s hs x hx => own_below (h.own s hs x hx) hb, h.sep⟩
theorem NetX.marks (h : NetX X w0 wr n L gn gi u l) {ga : Nat} {cs : Array Value} (hX : X ga) (ha : Blk wr ga 4 cs) (hk : Kept wr w2 (fun k => k = ga)) : NetX X w0 w2 n L gn gi u l :=
 ⟨h.kept.trans hk fun b _ e => by rw [e]; exact hX, h.top.kept hk (h.top.ne_ ha (by decide)), fun s hs => ⟨(h.row s hs).1.kept hk ((h.row s hs).1.ne_ ha (by decide)), (h.row s hs).2⟩, h.inj,
  fun s hs x hx => own_ty hk (h.own s hs x hx) (fun g cs e hB => by subst e; exact hB.ne_ ha (by decide) rfl), h.sep⟩
theorem NetX.put {f y : Nat} (h : NetX X w0 wr n L gn gi u l) (hf : f < n) (hy : y < L) {v' : Value} {l' : List Int}
  (hk : Kept wr w2 (fun k => (u f y).ownBlock = some k)) (ho : w2.ownsRow w0.heap.size 3 1 v' l'.length (l'.map (Value.int .i64))) (hmv : ∀ g, v'.ownBlock = some g → wr.heap.size ≤ g) :
  NetX X w0 (w2.setCell ⟨gi f, y, none⟩ v') n L gn gi (up2 u f y v') (up2 l f y l') := by
 have hof := h.own f hf y hy
 have hs := h.kept.size
 have hk2 := (Kept.refl w2 (fun k => k = gi f)).setCell (p := ⟨gi f, y, none⟩) (fun _ => rfl) v'
 have hr2 : ∀ s, s < n → Blk w2 (gi s) 22 (rangeC L (u s)) := fun s hs => (h.row s hs).1.kept hk (own_blk_ne hof (h.row s hs).1 (by decide))
 have ht2 : Blk w2 gn 50 (rangeC n fun s => .slice (some ⟨gi s, 0, none⟩) L L) := h.top.kept hk (own_blk_ne hof h.top (by decide))
 have hlt : ∀ s, s < n → ∀ x, x < L → ∀ g, (u s x).ownBlock = some g → g < wr.heap.size := fun s hs x hx g hg => own_lt (h.own s hs x hx) hg
 have hnew : ∀ s, s < n → ∀ x, x < L → ¬ (s = f ∧ x = y) → ∀ g, v'.ownBlock = some g → (u s x).ownBlock ≠ some g := fun s hs x hx hne g hg e => by
  have h1 := hmv g hg
  have h2 := hlt s hs x hx g e
  omega
 refine ⟨(h.kept.trans hk fun b hb e => by have := own_base hof e; omega).trans hk2 fun b hb e => by have := (h.row f hf).2; omega, ht2.kept hk2 (fun e => (hr2 f hf).ne_ ht2 (by decide) e.symm), fun s hs' => ⟨?_, (h.row s hs').2⟩, h.inj, fun s hs' x hx => ?_, fun s h1 x h2 s' h3 x' h4 g hg hg' => ?_⟩
 ·by_cases e : s = f
  ·subst e
   have h1 := (hr2 s hs').set_ y v'
   rw [rangeC_set] at h1
   rw [rangeC_congr (g := fun x => if x = y then v' else u s x) (fun x _ => by simp [up2])]
   exact h1
  ·rw [rangeC_congr (g := u s) (fun x _ => up2_ne fun hh => e hh.1)]
   exact (hr2 s hs').kept hk2 fun hh => e (h.inj s hs' f hf hh)
 ·by_cases e : s = f ∧ x = y
  ·obtain ⟨rfl, rfl⟩ := e
   rw [up2_same, up2_same]
   exact own_ty hk2 ho (fun g cs hg hB => by subst hg; exact hB.ne_ (hr2 s hs') (by decide) rfl)
  ·rw [up2_ne e, up2_ne e]
   refine own_ty hk2 (hk.ownsRow (h.own s hs' x hx) fun g hg hx' => e (h.sep s hs' x hx f hf y hy g hg hx')) (fun g cs hg hB => by subst hg; exact hB.ne_ (hr2 f hf) (by decide) rfl)
 ·by_cases e1 : s = f ∧ x = y <;> by_cases e2 : s' = f ∧ x' = y
  ·exact ⟨e1.1.trans e2.1.symm, e1.2.trans e2.2.symm⟩
  ·rw [e1.1, e1.2, up2_same] at hg
   rw [up2_ne e2] at hg'
   exact absurd hg' (hnew s' h3 x' h4 e2 g hg)
  ·rw [e2.1, e2.2, up2_same] at hg'
   rw [up2_ne e1] at hg
   exact absurd hg (hnew s h1 x h2 e1 g hg')
  ·rw [up2_ne e1] at hg
   rw [up2_ne e2] at hg'
   exact h.sep s h1 x h2 s' h3 x' h4 g hg hg'
end
structure MgP (n L cnt : Nat) (nx : Nat → Nat → Nat) (f : Nat → Nat) (q x : Nat) (l : Nat → Nat → List Int) : Prop where
 asc : ∀ k y, k < cnt → y < L → Asc (l k y)
 mem : ∀ k y, k < cnt → y < L → ∀ z : Int, z ∈ l k y ↔ ∃ s, s < n ∧ (s < q ∨ s = q ∧ y < x) ∧ f s = k ∧ z = (f (nx s y) : Int)
section
variable {n L cnt q x : Nat} {nx : Nat → Nat → Nat} {f : Nat → Nat} {l : Nat → Nat → List Int}
theorem MgP.start : MgP n L cnt nx f 0 0 (fun _ _ => []) := ⟨fun _ _ _ _ => List.Pairwise.nil, fun k y _ _ z => by
 constructor
 ·intro h; cases h
 ·rintro ⟨s, -, h | ⟨-, h⟩, -⟩ <;> omega⟩
theorem MgP.next (h : MgP n L cnt nx f q L l) : MgP n L cnt nx f (q + 1) 0 l := ⟨h.asc, fun k y hk hy z => by
 rw [h.mem k y hk hy]
 constructor
 ·rintro ⟨s, hs, h1, h2⟩
  exact ⟨s, hs, .inl (by omega), h2⟩
 ·rintro ⟨s, hs, h1, h2⟩
  exact ⟨s, hs, by omega, h2⟩⟩
theorem MgP.put (h : MgP n L cnt nx f q x l) (hq : q < n) (hx : x < L) {l' : List Int} (ha : Asc l') (hm : ∀ z, z ∈ l' ↔ z ∈ l (f q) x ∨ z = (f (nx q x) : Int)) (hfq : f q < cnt) : MgP n L cnt nx f q (x + 1) (up2 l (f q) x l') := by
 refine ⟨fun k y hk hy => ?_, fun k y hk hy z => ?_⟩
 ·by_cases e : k = f q ∧ y = x
  ·obtain ⟨rfl, rfl⟩ := e
   rw [up2_same]; exact ha
  ·rw [up2_ne e]; exact h.asc k y hk hy
 ·by_cases e : k = f q ∧ y = x
  ·obtain ⟨rfl, rfl⟩ := e
   rw [up2_same, hm, h.mem _ _ hfq hx]
   constructor
   ·rintro (⟨s, hs, h1, h2, h3⟩ | rfl)
    ·exact ⟨s, hs, by omega, h2, h3⟩
    ·exact ⟨q, hq, .inr ⟨rfl, by omega⟩, rfl, rfl⟩
   ·rintro ⟨s, hs, h1, h2, h3⟩
    by_cases e : s = q
    ·subst e; exact .inr h3
    ·exact .inl ⟨s, hs, by omega, h2, h3⟩
  ·rw [up2_ne e, h.mem k y hk hy]
   constructor
   ·rintro ⟨s, hs, h1, h2, h3⟩
    exact ⟨s, hs, by omega, h2, h3⟩
   ·rintro ⟨s, hs, h1, h2, h3⟩
    refine ⟨s, hs, ?_, h2, h3⟩
    by_cases e1 : s = q
    ·subst e1
     have : y ≠ x := fun e2 => e ⟨h2.symm, e2⟩
     omega
    ·omega
end
theorem asc_len {l : List Int} {cnt : Nat} (ha : Asc l) (h : ∀ z ∈ l, ∃ k, k < cnt ∧ z = ((k : Nat) : Int)) : l.length ≤ cnt := by
 have hn : (l.map Int.toNat).Nodup := by
  unfold Asc at ha
  rw [List.nodup_iff_pairwise_ne, List.pairwise_map]
  refine ha.imp_of_mem fun {a b} hx hy hlt => ?_
  obtain ⟨k, _, rfl⟩ := h a hx
  obtain ⟨m, _, rfl⟩ := h b hy
  simp only [Int.toNat_natCast]
  omega
 have := sub_len (l.map Int.toNat) (List.range cnt) hn fun a ha => by
  obtain ⟨z, hz, rfl⟩ := List.mem_map.1 ha
  obtain ⟨k, hk, rfl⟩ := h z hz
  simpa using hk
 simpa using this
theorem MgP.len {n L cnt q x : Nat} {nx : Nat → Nat → Nat} {f : Nat → Nat} {l : Nat → Nat → List Int} (h : MgP n L cnt nx f q x l) (hM : ∀ s x, s < n → x < L → nx s x < n) (hf : ∀ s, s < n → f s < cnt) {k y : Nat} (hk : k < cnt) (hy : y < L) : (l k y).length ≤ cnt :=
 asc_len (h.asc k y hk hy) fun z hz => by
  obtain ⟨s, hs, -, -, e⟩ := (h.mem k y hk hy z).1 hz
  exact ⟨_, hf _ (hM s y hs hy), e⟩
def MgA (n : Nat) (acc : Nat → Bool) (f : Nat → Nat) (q : Nat) (m : List Bool) : Prop := ∀ k, k < m.length → (m.getD k false = true ↔ ∃ s, s < n ∧ s < q ∧ f s = k ∧ acc s = true)
theorem MgA.start (n : Nat) (acc : Nat → Bool) (f : Nat → Nat) (cnt : Nat) : MgA n acc f 0 (List.replicate cnt false) := fun k hk => by
 rw [List.length_replicate] at hk
 rw [List.getD_eq_getElem?_getD, List.getElem?_replicate, if_pos hk]
 constructor
 ·intro h; simp at h
 ·rintro ⟨s, -, h, -⟩; omega
theorem MgA.put {n q : Nat} {acc : Nat → Bool} {f : Nat → Nat} {m : List Bool} (h : MgA n acc f q m) (hq : q < n) (hE : ∀ i j, i < n → j < n → f i = f j → acc i = acc j) : MgA n acc f (q + 1) (m.set (f q) (acc q)) := fun k hk => by
 rw [List.length_set] at hk
 rw [List.getD_eq_getElem?_getD, List.getElem?_set]
 by_cases e : f q = k
 ·subst e
  rw [if_pos rfl, if_pos hk, Option.getD_some]
  constructor
  ·intro h1
   exact ⟨q, hq, by omega, rfl, h1⟩
  ·rintro ⟨s, hs, -, h2, h3⟩
   rw [← hE s q hs hq h2]; exact h3
 ·rw [if_neg e, ← List.getD_eq_getElem?_getD, h k hk]
  constructor
  ·rintro ⟨s, hs, h1, h2⟩
   exact ⟨s, hs, by omega, h2⟩
  ·rintro ⟨s, hs, h1, h2, h3⟩
   refine ⟨s, hs, ?_, h2, h3⟩
   by_cases e1 : s = q
   ·subst e1; exact absurd h2 e
   ·omega
theorem mgP_mg {n L cnt : Nat} {nx : Nat → Nat → Nat} {acc : Nat → Bool} {f : Nat → Nat} {l : Nat → Nat → List Int} {m : List Bool} (h : MgP n L cnt nx f n 0 l) (hA : MgA n acc f n m) (hm : m.length = cnt) (hlt : ∀ s, s < n → f s < cnt) :
  Mg L n nx acc f ⟨L, (List.range cnt).map fun k => (List.range L).map fun x => l k x, [(f 0 : Int)], m⟩ := by
 have hn : (NF.mk L ((List.range cnt).map fun k => (List.range L).map fun x => l k x) [(f 0 : Int)] m).n = cnt := by simp [NF.n]
 refine ⟨rfl, fun s hs => by rw [hn]; exact hlt s hs, fun k x hk hx y => ?_, fun k => ?_, fun k hk => ?_⟩
 ·rw [hn] at hk
  have e : (NF.mk L ((List.range cnt).map fun k => (List.range L).map fun x => l k x) [(f 0 : Int)] m).to k x = l k x := by
   unfold NF.to
   rw [getD_some (map_get (List.getElem?_range hk)), getD_some (map_get (List.getElem?_range hx))]
  rw [e, h.mem k x hk hx]
  constructor
  ·rintro ⟨s, hs, -, h2, h3⟩
   exact ⟨s, hs, h2, by omega⟩
  ·rintro ⟨s, hs, h2, h3⟩
   exact ⟨s, hs, .inl hs, h2, by omega⟩
 ·show (k : Int) ∈ [(f 0 : Int)] ↔ _
  rw [List.mem_singleton]
  exact Int.natCast_inj
 ·rw [hn] at hk
  show m.getD k false = true ↔ _
  rw [hA k (by omega)]
  constructor
  ·rintro ⟨s, hs, -, h2, h3⟩
   exact ⟨s, hs, h2, h3⟩
  ·rintro ⟨s, hs, h2, h3⟩
   exact ⟨s, hs, hs, h2, h3⟩
end Go.Proofs.YtpmceapjnnkhjaaDoor
namespace Go.Proofs.YtpmceapjnnkhjaaDoor
open Go.RowKit
set_option maxHeartbeats 16000000
set_option maxRecDepth 100000
theorem mrg_rows {w : World} {n c b0 o0 kk : Nat} {L k0 : Int} (hn : n ≤ 200000) (hk0 : w.cell? ⟨b0, o0, none⟩ = some (.int .i64 k0)) (hkk : 0 < kk)
    {u0 u1 u3 u4 u5 u6 u9 u10 u11 u12 u13 u14 u15 u16 u17 u18 u19 u20 u21 u22 u23 u24 u25 u26 u27 u28 u29 u30 u31 u32 u33 u34 u35 u36 u37 u38 u39 u40 u41 u42 u43 u44 u45 u46 u47 u48 u49 u50 u51 u52 u53 u54 u55 u56 u57 u58 u59 u60 u61 u62 u63 u64 u65 u66 u67 u68 u69 u70 u71 u72 u73 u74 u75 u76 u77 u78 u79 u80 u81 u82 u83 u84 u85 u86 u87 u88 u89 u90 u91 u92 u93 u94 u95 u96 u97 u98 u99 u100 u101 u102 u103 u104 u105 u106 : Value}
    {Q : Exit → Act → World → Prop} (hN : Reg.NoQ Q)
    (hQ : ∀ (x31 x32 x33 x34 x35 x36 x37 x38 x39 x40 : Value) (w' : World) (g9 gn gs ga : Nat), AllB w w' [(g9, 79, #[.int .i64 L, .slice (some ⟨gn, 0, none⟩) n n, .slice (some ⟨gs, 0, none⟩) 1 1, .slice (some ⟨ga, 0, none⟩) n n]), (gn, 50, (List.replicate n (Value.slice none 0 0)).toArray), (gs, 3, #[.int .i64 k0]), (ga, 4, (List.replicate n (Value.bool false)).toArray)] →
      Q .normal ⟨List.toArray (u0 :: u1 :: (.int .i64 L) :: u3 :: u4 :: u5 :: u6 :: (.slice (some ⟨b0, o0, none⟩) kk c) :: (.int .i64 (n : Int)) :: (.pointer (some ⟨g9, 0, none⟩)) :: u10 :: u11 :: u12 :: u13 :: u14 :: u15 :: u16 :: u17 :: u18 :: u19 :: u20 :: u21 :: u22 :: u23 :: u24 :: u25 ::
      u26 :: u27 :: u28 :: u29 :: u30 :: x31 :: x32 :: x33 :: x34 :: x35 :: x36 :: x37 :: x38 :: x39 :: x40 :: u41 :: u42 :: u43 :: u44 :: u45 :: u46 :: u47 :: u48 :: u49 :: u50 :: u51 :: u52 :: u53 :: u54 :: u55 :: u56 :: u57 :: u58 :: u59 :: u60 :: u61 :: u62 ::
      u63 :: u64 :: u65 :: u66 :: u67 :: u68 :: u69 :: u70 :: u71 :: u72 :: u73 :: u74 :: u75 :: u76 :: u77 :: u78 :: u79 :: u80 :: u81 :: u82 :: u83 :: u84 :: u85 :: u86 :: u87 :: u88 :: u89 :: u90 :: u91 :: u92 :: u93 :: u94 :: u95 :: u96 :: u97 :: u98 :: u99 ::
      u100 :: u101 :: u102 :: u103 :: u104 :: u105 :: u106 :: []), []⟩ w') :
    (regionAt Tryd.f74 6).wp Tryd.prog Q ⟨List.toArray (u0 :: u1 :: (.int .i64 L) :: u3 :: u4 :: u5 :: u6 :: (.slice (some ⟨b0, o0, none⟩) kk c) :: (.int .i64 (n : Int)) :: u9 :: u10 :: u11 :: u12 :: u13 :: u14 :: u15 :: u16 :: u17 :: u18 :: u19 :: u20 :: u21 :: u22 :: u23 :: u24 :: u25 :: u26 :: u27 :: u28 :: u29 ::
      u30 :: u31 :: u32 :: u33 :: u34 :: u35 :: u36 :: u37 :: u38 :: u39 :: u40 :: u41 :: u42 :: u43 :: u44 :: u45 :: u46 :: u47 :: u48 :: u49 :: u50 :: u51 :: u52 :: u53 :: u54 :: u55 :: u56 :: u57 :: u58 :: u59 :: u60 :: u61 :: u62 :: u63 :: u64 :: u65 :: u66 ::
      u67 :: u68 :: u69 :: u70 :: u71 :: u72 :: u73 :: u74 :: u75 :: u76 :: u77 :: u78 :: u79 :: u80 :: u81 :: u82 :: u83 :: u84 :: u85 :: u86 :: u87 :: u88 :: u89 :: u90 :: u91 :: u92 :: u93 :: u94 :: u95 :: u96 :: u97 :: u98 :: u99 :: u100 :: u101 :: u102 :: u103 ::
      u104 :: u105 :: u106 :: []), []⟩ w := by
  conv => arg 2; whnf
  refine Reg.region_spl [0, 0, 2, 0, 8, 24, 56, 0, 128, 511, 0, 2047] (.node 2 6 (.node 2 8 (.node 2 10 (.node 6 8 (.node 6 10 (.node 8 10 (.node 9 10 (.leaf [0, 1, 3, 4, 5, 7, 2, 6, 8, 9, 10, 11]) (.leaf [0, 1, 3, 4, 5, 7, 2, 6, 8, 10, 9, 11])) (.leaf [0, 1, 3, 4, 5, 7, 2, 6, 10, 8, 9, 11])) (.leaf [0, 1, 3, 4, 5, 7, 2, 10, 6, 8, 9, 11])) (.node 6 10 (.node 9 10 (.leaf [0, 1, 3, 4, 5, 7, 2, 8, 6, 9, 10, 11]) (.leaf [0, 1, 3, 4, 5, 7, 2, 8, 6, 10, 9, 11])) (.node 8 10 (.leaf [0, 1, 3, 4, 5, 7, 2, 8, 10, 6, 9, 11]) (.leaf [0, 1, 3, 4, 5, 7, 2, 10, 8, 6, 9, 11])))) (.node 6 8 (.leaf [0, 1, 3, 4, 5, 7, 10, 2, 6, 8, 9, 11]) (.leaf [0, 1, 3, 4, 5, 7, 10, 2, 8, 6, 9, 11]))) (.node 2 10 (.node 6 10 (.node 9 10 (.leaf [0, 1, 3, 4, 5, 7, 8, 2, 6, 9, 10, 11]) (.leaf [0, 1, 3, 4, 5, 7, 8, 2, 6, 10, 9, 11])) (.leaf [0, 1, 3, 4, 5, 7, 8, 2, 10, 6, 9, 11])) (.node 8 10 (.leaf [0, 1, 3, 4, 5, 7, 8, 10, 2, 6, 9, 11]) (.leaf [0, 1, 3, 4, 5, 7, 10, 8, 2, 6, 9, 11])))) (.node 2 8 (.node 2 10 (.node 8 10 (.node 9 10 (.leaf [0, 1, 3, 4, 5, 7, 6, 2, 8, 9, 10, 11]) (.leaf [0, 1, 3, 4, 5, 7, 6, 2, 8, 10, 9, 11])) (.leaf [0, 1, 3, 4, 5, 7, 6, 2, 10, 8, 9, 11])) (.node 6 10 (.leaf [0, 1, 3, 4, 5, 7, 6, 10, 2, 8, 9, 11]) (.leaf [0, 1, 3, 4, 5, 7, 10, 6, 2, 8, 9, 11]))) (.node 2 10 (.node 6 8 (.node 9 10 (.leaf [0, 1, 3, 4, 5, 7, 6, 8, 2, 9, 10, 11]) (.leaf [0, 1, 3, 4, 5, 7, 6, 8, 2, 10, 9, 11])) (.node 9 10 (.leaf [0, 1, 3, 4, 5, 7, 8, 6, 2, 9, 10, 11]) (.leaf [0, 1, 3, 4, 5, 7, 8, 6, 2, 10, 9, 11]))) (.node 6 8 (.node 6 10 (.node 8 10 (.leaf [0, 1, 3, 4, 5, 7, 6, 8, 10, 2, 9, 11]) (.leaf [0, 1, 3, 4, 5, 7, 6, 10, 8, 2, 9, 11])) (.leaf [0, 1, 3, 4, 5, 7, 10, 6, 8, 2, 9, 11])) (.node 6 10 (.leaf [0, 1, 3, 4, 5, 7, 8, 6, 10, 2, 9, 11]) (.node 8 10 (.leaf [0, 1, 3, 4, 5, 7, 8, 10, 6, 2, 9, 11]) (.leaf [0, 1, 3, 4, 5, 7, 10, 8, 6, 2, 9, 11]))))))) (by kernel_rfl) hN ?_
  dsimp only [Reg.Spl.goal]
  have hA := (AllB.nil w).drew
  repeat' (with_reducible refine And.intro ?_ ?_)
  all_goals
    refine Reg.rest_walkE [0, 1, 3, 4, 5, 7] _ rfl rfl (by kernel_rfl) ?_
    intro Qf hQf
    go_wp2_with fail
    refine hQf _ _ ?_
    clear hQf
    iterate 6
      first
      | (refine Reg.rest_act' 2 _ [5] rfl (by kernel_rfl) ?_
         intro Qf hQf
         simp only [gT, gS, gZ]
         refine wpList_make Tryd.underlying77 info50 (by omega) (by omega) n (by omega) rfl _ _ rfl rfl rfl ?_
         intro gn w1 hb hB hg
         first | refine hQf _ _ ⟨Reg.same_below hB _ rfl, ?_⟩ | refine ⟨Reg.same_below hB _ rfl, ?_⟩
         replace hA := hA.add hB hb hg
         try clear hQf
         clear hb hB hg)
      | (refine Reg.rest_act' 8 _ [5] rfl (by kernel_rfl) ?_
         intro Qf hQf
         simp only [gT, gS, gZ]
         refine wpList_make Tryd.underlying70 info4 (by omega) (by omega) n (by omega) rfl _ _ rfl rfl rfl ?_
         intro ga w1 hb hB hg
         first | refine hQf _ _ ⟨Reg.same_below hB _ rfl, ?_⟩ | refine ⟨Reg.same_below hB _ rfl, ?_⟩
         replace hA := hA.add hB hb hg
         try clear hQf
         clear hb hB hg)
      | (refine Reg.rest_walkE [6] _ rfl rfl (by kernel_rfl) ?_
         intro Qf hQf
         go_wp2_with fail
         first | refine hQf _ _ ?_ | skip
         replace hA := hA.add ((Below.refl _ _).alloc (Nat.le_refl _) _) (Blk.new _ 3 #[.int .i64 k0]) (Nat.le_refl _)
         try clear hQf)
      | (refine Reg.rest_walkE [10] _ rfl rfl (by kernel_rfl) ?_
         intro Qf hQf
         refine wpList_alloc info79 rfl rfl ?_
         intro g3 w1 hb hB hg
         refine hQf _ _ ?_
         replace hA := hA.add hB hb hg
         try clear hQf
         clear hb hB hg)
      | (refine Reg.rest_walkE [9] _ rfl rfl (by kernel_rfl) ?_
         intro Qf hQf
         go_wp2_with fail
         first | refine hQf _ _ ?_ | skip
         try clear hQf)
      | (refine Reg.rest_walkE [11] _ rfl rfl (by kernel_rfl) ?_
         intro Qf hQf
         have hb3 := (hA.blk (g3, 79, #[.int .i64 0, .slice none 0 0, .slice none 0 0, .slice none 0 0]) (by simp [Value.cells])).1
         have hc3 := hb3.cell
         have hf3 := hb3.frozen
         have hl3 := hb3.lt
         clear hb3
         go_wp2_with fail
         first | refine hQf _ _ ?_ | skip
         try clear hQf)
    refine Reg.rest_end ?_
    obtain ⟨hbel, hblk, hnd⟩ := hA
    simp only [List.map_cons, List.map_nil, List.nodup_cons, List.mem_cons, List.not_mem_nil, not_or, or_false, List.nodup_nil, not_false_eq_true, and_true] at hnd
    refine hQ _ _ _ _ _ _ _ _ _ _ _ g3 gn _ ga (AllB.set4t (e := 79) (a := .int .i64 0) (b := .slice none 0 0) (c := .slice none 0 0) (d := .slice none 0 0) ⟨hbel, ?_, ?_⟩ _ _ _ _)
    · intro x hx
      rw [← madeN, ← madeN] at hx
      refine hblk x ?_
      simp only [List.mem_cons, List.not_mem_nil, or_false] at hx ⊢
      rcases hx with rfl | rfl | rfl | rfl
      all_goals first | exact .inl rfl | exact .inr (.inl rfl) | exact .inr (.inr (.inl rfl)) | exact .inr (.inr (.inr rfl))
    · simp only [List.map_cons, List.map_nil, List.nodup_cons, List.mem_cons, List.not_mem_nil, not_or, or_false, List.nodup_nil, not_false_eq_true, and_true]
      have hdw : w.drew.heap.size = w.heap.size := rfl
      omega
end Go.Proofs.YtpmceapjnnkhjaaDoor
