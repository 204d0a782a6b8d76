/-
  The reference's table: the table of a canonical automaton.
  The reference's table: the walk joined.
  Results of operations by relation; the canonical machine of the other trees: plain Lean.
  tree.Complement: the walk.
  tree.Complement: the walk joined.
  The reference's Complement: the walk.
-/
import Derived.Test.YtnimlcbgeiajiaaQI
import Derived.Test.YtnimlcbgeiajiaaQE
import Derived.Test.YtnimlcbgeiajiaaQJ

namespace Go.Proofs.Ytnimlcbgeiajiaa
open Go.RowKit

theorem TblW.congr {w : World} {base L n gl ga gv cv : Nat} {gi ci : Nat → Nat} {gj : Nat → Nat → Nat} {lf lf' : Nat → Nat} {br br' : Nat → Nat → Nat → Nat} {ac ac' : Nat → Bool} (h : TblW w base L n gl ga gv cv gi ci gj lf br ac)
    (h1 : ∀ x, x < L → lf x = lf' x) (h2 : ∀ x i k, x < L → i < n → k < n → br x i k = br' x i k) (h3 : ∀ q, q < n → ac q = ac' q) : TblW w base L n gl ga gv cv gi ci gj lf' br' ac' :=
  ⟨Eq.mp (congrArg (Blk w gl 3) (rangeC_congr fun x hx => by rw [h1 x hx])) h.leaf, Eq.mp (congrArg (Blk w ga 4) (rangeC_congr fun q hq => by rw [h3 q hq])) h.acc, h.top, h.topc, h.mid,
    fun x hx i hi => Eq.mp (congrArg (Blk w (gj x i) 3) (rangeC_congr fun k hk => by rw [h2 x i k hx hi hk])) (h.row x hx i hi), h.bl, h.ba, h.bv, h.bi, h.bj, h.nl, h.nj⟩
theorem take_new {D : Type} {l : List D} {k : Nat} {x y : D} (hx : l[k]? = some x) (hy : y ∈ l.take (k + 1)) : y ∈ l.take k ∨ y = x := by
  rw [take_snoc hx] at hy
  rcases List.mem_append.1 hy with h | h
  · exact .inl h
  · exact .inr (List.mem_singleton.1 h)

/-- What table reads. -/
structure TabX (w : World) (g1 L n : Nat) (A1 A2 A3 : Option Addr) (c1 c2 c3 : Nat) (acc : List Int) (lv : List Leaf) (brs : List Branch) : Prop where
  b : Blk w g1 26 #[.int .i64 (L : Int), .int .i64 (n : Int), .slice A1 acc.length c1, .slice A2 lv.length c2, .slice A3 brs.length c3]
  s1 : Sl w w.heap.size 1 encI A1 acc
  s2 : Sl w w.heap.size 2 encL A2 lv
  s3 : Sl w w.heap.size 4 encBr A3 brs
theorem TabX.at {w w' : World} {g1 L n : Nat} {A1 A2 A3 : Option Addr} {c1 c2 c3 : Nat} {acc : List Int} {lv : List Leaf} {brs : List Branch} (h : TabX w g1 L n A1 A2 A3 c1 c2 c3 acc lv brs) (hb : Below w.heap.size w w') : TabX w' g1 L n A1 A2 A3 c1 c2 c3 acc lv brs :=
  ⟨h.b.below hb, (h.s1.below hb).mono hb.size, (h.s2.below hb).mono hb.size, (h.s3.below hb).mono hb.size⟩

set_option maxHeartbeats 8000000 in
set_option maxRecDepth 100000 in
theorem tab_leaves {wB w : World} {g1 g13 L n gl ga gv cv : Nat} {gi ci : Nat → Nat} {gj : Nat → Nat → Nat} {A1 A2 A3 : Option Addr} {c1 c2 c3 : Nat} {acc : List Int} {lv : List Leaf} {brs : List Branch} (hX : TabX wB g1 L n A1 A2 A3 c1 c2 c3 acc lv brs)
    {F : Nat → Nat} (hF : ∀ e ∈ lv, ∃ x, x < L ∧ e = ⟨(x : Int), (F x : Int)⟩)
    {lf : Nat → Nat} {br : Nat → Nat → Nat → Nat} {ac : Nat → Bool} (hT : SubT wB w L n g13 gl ga gv cv gi ci gj lf br ac)
    {u0 u2 u5 u6 u7 u8 u9 u10 u11 u12 u13 u14 u15 u16 u17 u18 u19 u20 u21 u22 u23 u24 u25 u26 u27 u28 u29 u30 u31 u32 u33 u34 u35 u36 u37 u38 u39 u40 u41 u42 u43 u44 u45 u46 u47 u48 u49 u50 u51 u52 u53 u54 u55 u56 u57 u58 u59 u60 u61 u62 u63 u64 u65 u66 u67 u68 u69 u70 u71 u72 u73 u74 u75 u76 u77 : Value}
    {Q : Exit → Act → World → Prop} (hN : Reg.NoQ Q)
    (hQ : ∀ (x4 x13 x14 x15 x16 x17 x18 x19 x20 x21 x22 x23 x24 x25 x26 x27 x28 x29 x30 x31 x32 x33 x34 : Value) (w' : World) (lf' : Nat → Nat), SubT wB w' L n g13 gl ga gv cv gi ci gj lf' br ac → (∀ x, x < L → (⟨(x : Int), (F x : Int)⟩ : Leaf) ∈ lv → lf' x = F x) → Q (.exit 0) ⟨List.toArray (u0 :: (.pointer (some ⟨g1, 0, none⟩)) :: u2 :: (.pointer (some ⟨g13, 0, none⟩)) :: x4 :: u5 :: u6 :: u7 :: u8 :: u9 :: u10 :: u11 :: u12 :: x13 :: x14 :: x15 :: x16 :: x17 :: x18 :: x19 :: x20 :: x21 :: x22 :: x23 :: x24 :: x25 :: x26 :: x27 :: x28 :: x29 :: 
      x30 :: x31 :: x32 :: x33 :: x34 :: u35 :: u36 :: u37 :: u38 :: u39 :: u40 :: u41 :: u42 :: u43 :: u44 :: u45 :: u46 :: u47 :: u48 :: u49 :: u50 :: u51 :: u52 :: u53 :: u54 :: u55 :: u56 :: u57 :: u58 :: u59 :: u60 :: u61 :: u62 :: u63 :: u64 :: u65 :: u66 :: 
      u67 :: u68 :: u69 :: u70 :: u71 :: u72 :: u73 :: u74 :: u75 :: u76 :: u77 :: []), []⟩ w') :
    (Code.loop (loopBody Try.f59 0)).wp Try.prog Q ⟨List.toArray (u0 :: (.pointer (some ⟨g1, 0, none⟩)) :: u2 :: (.pointer (some ⟨g13, 0, none⟩)) :: (.int .i64 0) :: u5 :: u6 :: u7 :: u8 :: u9 :: u10 :: u11 :: u12 :: u13 :: u14 :: u15 :: u16 :: u17 :: u18 :: u19 :: u20 :: u21 :: u22 :: u23 :: u24 :: u25 :: u26 :: u27 :: u28 :: 
      u29 :: u30 :: u31 :: u32 :: u33 :: u34 :: u35 :: u36 :: u37 :: u38 :: u39 :: u40 :: u41 :: u42 :: u43 :: u44 :: u45 :: u46 :: u47 :: u48 :: u49 :: u50 :: u51 :: u52 :: u53 :: u54 :: u55 :: u56 :: u57 :: u58 :: u59 :: u60 :: u61 :: u62 :: u63 :: u64 :: u65 :: 
      u66 :: u67 :: u68 :: u69 :: u70 :: u71 :: u72 :: u73 :: u74 :: u75 :: u76 :: u77 :: []), []⟩ w := by
  conv => arg 2; arg 1; whnf
  have hFH := hide hF
  have hn2 := hX.s2.1
  clear hF
  go_loopw [4] (fun kk wr => ∃ (k : Nat) (lf' : Nat → Nat), kk = .int .i64 (k : Int) ∧ k ≤ lv.length ∧ SubT wB wr L n g13 gl ga gv cv gi ci gj lf' br ac ∧ Hid (∀ x, x < L → (⟨(x : Int), (F x : Int)⟩ : Leaf) ∈ lv.take k → lf' x = F x)) (fun kk _ => lv.length - (intOf kk).toNat)
  case atStart => exact ⟨0, lf, rfl, Nat.zero_le _, hT, fun x _ h => by simp at h⟩
  case round =>
    obtain ⟨k, lf', rfl, hk, hT', hI⟩ := hrel
    have hXr := hX.at hT'.below
    have hc1 := hXr.b.cell
    by_cases hlt : k < lv.length
    · obtain ⟨b, off, e, rfl, hbk, he, hc⟩ := hXr.s2.at hlt
      obtain ⟨x, hx, hxe⟩ := hFH.out e (List.mem_of_getElem? he)
      subst hxe
      have d0 := hc 0 (by omega)
      have d1 := hc 1 (by omega)
      simp only [Nat.add_zero, encL] at d0 d1
      have hc13 := hT'.b.cell
      have hcl : wr.cell? ⟨gl, x, none⟩ = some (encN (lf' x)) := by rw [hT'.t.leaf.cell, rangeC_get _ hx]
      simp only [encN] at hcl
      have hfl := hT'.t.leaf.frozen x
      have hll := hT'.t.leaf.lt
      have hst := hide (hT'.drew.setLeaf x (F x))
      have heH := hide he
      clear hc he hT' hXr
      go_wp2_with fail
      refine Reg.region_plain [0, 1, 0, 4, 0, 28, 60, 124, 0, 256, 0, 1792, 3840, 7936, 16383, 32767] (by kernel_rfl) (by repeat (first | exact hN | refine Reg.NoQ.then ?_ | refine Reg.NoQ.inBlock ?_)) ?_
      go_wp2_with fail
      refine ⟨⟨k + 1, _, by go_num, by omega, hst.out, fun x' hx' hm => ?_⟩, by simp [intOf]; omega⟩
      unfold up1
      split
      · rename_i e; rw [e]
      · rename_i hne
        rcases take_new heH.out hm with hm | hm
        · exact hI.out x' hx' hm
        · injection hm with h1 h2
          exact absurd (by omega) hne
    · have hTH := hide hT'
      have e : k = lv.length := by omega
      have hI2 := hI.out
      rw [e, List.take_length] at hI2
      have hI3 := hide hI2
      clear e hT' hI2
      go_wp2_with fail
      exact hQ _ _ _ _ _ _ _ _ _ _ _ _ _ _ _ _ _ _ _ _ _ _ _ wr lf' hTH.out hI3.out

set_option maxHeartbeats 8000000 in
set_option maxRecDepth 100000 in
theorem tab_branches {wB w : World} {g1 g13 L n gl ga gv cv : Nat} {gi ci : Nat → Nat} {gj : Nat → Nat → Nat} {A1 A2 A3 : Option Addr} {c1 c2 c3 : Nat} {acc : List Int} {lv : List Leaf} {brs : List Branch} (hX : TabX wB g1 L n A1 A2 A3 c1 c2 c3 acc lv brs)
    {F : Nat → Nat → Nat → Nat} (hF : ∀ e ∈ brs, ∃ x i j, x < L ∧ i < n ∧ j < n ∧ e = ⟨(x : Int), (i : Int), (j : Int), (F x i j : Int)⟩)
    {lf : Nat → Nat} {br : Nat → Nat → Nat → Nat} {ac : Nat → Bool} (hT : SubT wB w L n g13 gl ga gv cv gi ci gj lf br ac)
    {u0 u2 u4 u6 u7 u8 u9 u10 u11 u12 u13 u14 u15 u16 u17 u18 u19 u20 u21 u22 u23 u24 u25 u26 u27 u28 u29 u30 u31 u32 u33 u34 u35 u36 u37 u38 u39 u40 u41 u42 u43 u44 u45 u46 u47 u48 u49 u50 u51 u52 u53 u54 u55 u56 u57 u58 u59 u60 u61 u62 u63 u64 u65 u66 u67 u68 u69 u70 u71 u72 u73 u74 u75 u76 u77 : Value}
    {Q : Exit → Act → World → Prop} (hN : Reg.NoQ Q)
    (hQ : ∀ (x5 x6 x35 x36 x37 x38 x39 x40 x41 x42 x43 x44 x45 x46 x47 x48 x49 x50 x51 x52 x53 x54 x55 x56 x57 x58 x59 x60 x61 : Value) (w' : World) (br' : Nat → Nat → Nat → Nat), SubT wB w' L n g13 gl ga gv cv gi ci gj lf br' ac → (∀ x i j, x < L → i < n → j < n → (⟨(x : Int), (i : Int), (j : Int), (F x i j : Int)⟩ : Branch) ∈ brs → br' x i j = F x i j) → Q (.exit 2) ⟨List.toArray (u0 :: (.pointer (some ⟨g1, 0, none⟩)) :: u2 :: (.pointer (some ⟨g13, 0, none⟩)) :: u4 :: x5 :: x6 :: u7 :: u8 :: u9 :: u10 :: u11 :: u12 :: u13 :: u14 :: u15 :: u16 :: u17 :: u18 :: u19 :: u20 :: u21 :: u22 :: u23 :: u24 :: u25 :: u26 :: u27 :: u28 :: u29 :: 
      u30 :: u31 :: u32 :: u33 :: u34 :: x35 :: x36 :: x37 :: x38 :: x39 :: x40 :: x41 :: x42 :: x43 :: x44 :: x45 :: x46 :: x47 :: x48 :: x49 :: x50 :: x51 :: x52 :: x53 :: x54 :: x55 :: x56 :: x57 :: x58 :: x59 :: x60 :: x61 :: u62 :: u63 :: u64 :: u65 :: u66 :: 
      u67 :: u68 :: u69 :: u70 :: u71 :: u72 :: u73 :: u74 :: u75 :: u76 :: u77 :: []), []⟩ w') :
    (Code.loop (loopBody Try.f59 1)).wp Try.prog Q ⟨List.toArray (u0 :: (.pointer (some ⟨g1, 0, none⟩)) :: u2 :: (.pointer (some ⟨g13, 0, none⟩)) :: u4 :: (.int .i64 0) :: u6 :: u7 :: u8 :: u9 :: u10 :: u11 :: u12 :: u13 :: u14 :: u15 :: u16 :: u17 :: u18 :: u19 :: u20 :: u21 :: u22 :: u23 :: u24 :: u25 :: u26 :: u27 :: u28 :: 
      u29 :: u30 :: u31 :: u32 :: u33 :: u34 :: u35 :: u36 :: u37 :: u38 :: u39 :: u40 :: u41 :: u42 :: u43 :: u44 :: u45 :: u46 :: u47 :: u48 :: u49 :: u50 :: u51 :: u52 :: u53 :: u54 :: u55 :: u56 :: u57 :: u58 :: u59 :: u60 :: u61 :: u62 :: u63 :: u64 :: u65 :: 
      u66 :: u67 :: u68 :: u69 :: u70 :: u71 :: u72 :: u73 :: u74 :: u75 :: u76 :: u77 :: []), []⟩ w := by
  conv => arg 2; arg 1; whnf
  have hFH := hide hF
  have hn3 := hX.s3.1
  clear hF
  go_loopw [5] (fun kk wr => ∃ (k : Nat) (br' : Nat → Nat → Nat → Nat), kk = .int .i64 (k : Int) ∧ k ≤ brs.length ∧ SubT wB wr L n g13 gl ga gv cv gi ci gj lf br' ac ∧
    Hid (∀ x i j, x < L → i < n → j < n → (⟨(x : Int), (i : Int), (j : Int), (F x i j : Int)⟩ : Branch) ∈ brs.take k → br' x i j = F x i j)) (fun kk _ => brs.length - (intOf kk).toNat)
  case atStart => exact ⟨0, br, rfl, Nat.zero_le _, hT, fun x i j _ _ _ h => by simp at h⟩
  case round =>
    obtain ⟨k, br', rfl, hk, hT', hI⟩ := hrel
    have hXr := hX.at hT'.below
    have hc1 := hXr.b.cell
    by_cases hlt : k < brs.length
    · obtain ⟨b, off, e, rfl, hbk, he, hc⟩ := hXr.s3.at hlt
      obtain ⟨x, i, j, hx, hi, hj, hxe⟩ := hFH.out e (List.mem_of_getElem? he)
      subst hxe
      have d0 := hc 0 (by omega)
      have d1 := hc 1 (by omega)
      have d2 := hc 2 (by omega)
      have d3 := hc 3 (by omega)
      simp only [Nat.add_zero, encBr] at d0 d1 d2 d3
      obtain ⟨w4, hw4, hb4, hB4, hk4⟩ := box_blk wr #[.int .i64 (x : Int), .int .i64 (i : Int), .int .i64 (j : Int), .int .i64 (F x i j : Int)] 59
      have hT4 := hT'.call hb4
      have hc6 := hB4.cell
      have hc13 := hT4.b.cell
      have htc := hT4.t.topc x hx
      have hmc := (hT4.t.mid x hx).2 i hi
      have hcr : w4.cell? ⟨gj x i, j, none⟩ = some (encN (br' x i j)) := by rw [(hT4.t.row x hx i hi).cell, rangeC_get _ hj]
      simp only [encN] at hcr
      have hfr := (hT4.t.row x hx i hi).frozen j
      have hlr := (hT4.t.row x hx i hi).lt
      have hst := hide (hT4.drew.setBr hx hi j (F x i j))
      have heH := hide he
      clear hc he hT' hXr hT4
      go_wp2_with fail
      refine Reg.region_plain [0, 1, 0, 4, 15, 31, 0, 64, 255, 511, 0, 1024, 0, 4096, 16383, 32767] (by kernel_rfl) (by repeat (first | exact hN | refine Reg.NoQ.then ?_ | refine Reg.NoQ.inBlock ?_)) ?_
      go_wp2_with fail
      refine ⟨⟨k + 1, _, by go_num, by omega, hst.out, fun x' i' j' hx' hi' hj' hm => ?_⟩, by simp [intOf]; omega⟩
      unfold up3
      split
      · rename_i e; obtain ⟨rfl, rfl, rfl⟩ := e; rfl
      · rename_i hne
        rcases take_new heH.out hm with hm | hm
        · exact hI.out x' i' j' hx' hi' hj' hm
        · injection hm with h1 h2 h3 h4
          exact absurd ⟨by omega, by omega, by omega⟩ hne
    · have hTH := hide hT'
      have e : k = brs.length := by omega
      have hI2 := hI.out
      rw [e, List.take_length] at hI2
      have hI3 := hide hI2
      clear e hT' hI2
      go_wp2_with fail
      exact hQ _ _ _ _ _ _ _ _ _ _ _ _ _ _ _ _ _ _ _ _ _ _ _ _ _ _ _ _ _ wr br' hTH.out hI3.out

set_option maxHeartbeats 8000000 in
set_option maxRecDepth 100000 in
theorem tab_acc {wB w : World} {g1 g13 L n gl ga gv cv : Nat} {gi ci : Nat → Nat} {gj : Nat → Nat → Nat} {A1 A2 A3 : Option Addr} {c1 c2 c3 : Nat} {al : List Nat} {lv : List Leaf} {brs : List Branch} (hX : TabX wB g1 L n A1 A2 A3 c1 c2 c3 (al.map fun (i : Nat) => (i : Int)) lv brs)
    (hA : ∀ q ∈ al, q < n)
    {lf : Nat → Nat} {br : Nat → Nat → Nat → Nat} (hT : SubT wB w L n g13 gl ga gv cv gi ci gj lf br (fun _ => false))
    {u0 u2 u4 u5 u6 u8 u9 u10 u11 u12 u13 u14 u15 u16 u17 u18 u19 u20 u21 u22 u23 u24 u25 u26 u27 u28 u29 u30 u31 u32 u33 u34 u35 u36 u37 u38 u39 u40 u41 u42 u43 u44 u45 u46 u47 u48 u49 u50 u51 u52 u53 u54 u55 u56 u57 u58 u59 u60 u61 u62 u63 u64 u65 u66 u67 u68 u69 u70 u71 u72 u73 u74 u75 u76 u77 : Value}
    {Q : Exit → Act → World → Prop} (hN : Reg.NoQ Q)
    (hQ : ∀ (x7 x62 x63 x64 x65 x66 x67 x68 x69 x70 x71 x72 x73 x74 x75 x76 : Value) (w' : World) (ac' : Nat → Bool), SubT wB w' L n g13 gl ga gv cv gi ci gj lf br ac' → (∀ q, q < n → (ac' q = true ↔ q ∈ al)) → Q (.exit 4) ⟨List.toArray (u0 :: (.pointer (some ⟨g1, 0, none⟩)) :: u2 :: (.pointer (some ⟨g13, 0, none⟩)) :: u4 :: u5 :: u6 :: x7 :: u8 :: u9 :: u10 :: u11 :: u12 :: u13 :: u14 :: u15 :: u16 :: u17 :: u18 :: u19 :: u20 :: u21 :: u22 :: u23 :: u24 :: u25 :: u26 :: u27 :: u28 :: u29 :: 
      u30 :: u31 :: u32 :: u33 :: u34 :: u35 :: u36 :: u37 :: u38 :: u39 :: u40 :: u41 :: u42 :: u43 :: u44 :: u45 :: u46 :: u47 :: u48 :: u49 :: u50 :: u51 :: u52 :: u53 :: u54 :: u55 :: u56 :: u57 :: u58 :: u59 :: u60 :: u61 :: x62 :: x63 :: x64 :: x65 :: x66 :: 
      x67 :: x68 :: x69 :: x70 :: x71 :: x72 :: x73 :: x74 :: x75 :: x76 :: u77 :: []), []⟩ w') :
    (Code.loop (loopBody Try.f59 2)).wp Try.prog Q ⟨List.toArray (u0 :: (.pointer (some ⟨g1, 0, none⟩)) :: u2 :: (.pointer (some ⟨g13, 0, none⟩)) :: u4 :: u5 :: u6 :: (.int .i64 0) :: u8 :: u9 :: u10 :: u11 :: u12 :: u13 :: u14 :: u15 :: u16 :: u17 :: u18 :: u19 :: u20 :: u21 :: u22 :: u23 :: u24 :: u25 :: u26 :: u27 :: u28 :: 
      u29 :: u30 :: u31 :: u32 :: u33 :: u34 :: u35 :: u36 :: u37 :: u38 :: u39 :: u40 :: u41 :: u42 :: u43 :: u44 :: u45 :: u46 :: u47 :: u48 :: u49 :: u50 :: u51 :: u52 :: u53 :: u54 :: u55 :: u56 :: u57 :: u58 :: u59 :: u60 :: u61 :: u62 :: u63 :: u64 :: u65 :: 
      u66 :: u67 :: u68 :: u69 :: u70 :: u71 :: u72 :: u73 :: u74 :: u75 :: u76 :: u77 :: []), []⟩ w := by
  conv => arg 2; arg 1; whnf
  have hAH := hide hA
  have hn1 := hX.s1.1
  have hml : (al.map fun (i : Nat) => (i : Int)).length = al.length := by simp
  have hmlH := hide hml
  rw [hml] at hn1
  clear hA hml
  go_loopw [7] (fun kk wr => ∃ (k : Nat) (ac' : Nat → Bool), kk = .int .i64 (k : Int) ∧ k ≤ al.length ∧ SubT wB wr L n g13 gl ga gv cv gi ci gj lf br ac' ∧ Hid (∀ q, q < n → (ac' q = true ↔ q ∈ al.take k))) (fun kk _ => al.length - (intOf kk).toNat)
  case atStart => exact ⟨0, _, rfl, Nat.zero_le _, hT, fun q _ => by simp⟩
  case round =>
    obtain ⟨k, ac', rfl, hk, hT', hI⟩ := hrel
    have hXr := hX.at hT'.below
    have hc1 := hXr.b.cell
    rw [hmlH.out] at hc1
    by_cases hlt : k < al.length
    · obtain ⟨b, off, e, rfl, hbk, he, hc⟩ := hXr.s1.at (k := k) (by rw [hmlH.out]; exact hlt)
      obtain ⟨q, hq⟩ := get_lt hlt
      have hqn := hAH.out q (List.mem_of_getElem? hq)
      have hqe := map_get (f := fun (i : Nat) => (i : Int)) hq
      rw [he] at hqe
      injection hqe with hqe
      subst hqe
      have d0 := hc 0 (by omega)
      simp only [Nat.add_zero, Nat.mul_one, encI] at d0
      have hc13 := hT'.b.cell
      have hca : wr.cell? ⟨ga, q, none⟩ = some (.bool (ac' q)) := by rw [hT'.t.acc.cell, rangeC_get _ hqn]
      have hfa := hT'.t.acc.frozen q
      have hla := hT'.t.acc.lt
      have hst := hide (hT'.drew.setAcc q true)
      have hqH := hide hq
      clear hc he hT' hXr hq
      go_wp2_with fail
      refine Reg.region_plain [0, 1, 0, 4, 0, 28, 60, 127, 255] (by kernel_rfl) (by repeat (first | exact hN | refine Reg.NoQ.then ?_ | refine Reg.NoQ.inBlock ?_)) ?_
      go_wp2_with fail
      refine ⟨⟨k + 1, _, by go_num, by omega, hst.out, fun q' hq' => ?_⟩, by simp [intOf]; omega⟩
      have ht := take_snoc hqH.out
      unfold up1
      rw [ht, List.mem_append, List.mem_singleton]
      split
      · rename_i e; simp [e]
      · rename_i hne
        rw [hI.out q' hq']
        simp [hne]
    · have hTH := hide hT'
      have e : k = al.length := by omega
      have hI2 := hI.out
      rw [e, List.take_length] at hI2
      have hI3 := hide hI2
      clear e hT' hI2
      go_wp2_with fail
      exact hQ _ _ _ _ _ _ _ _ _ _ _ _ _ _ _ _ wr ac' hTH.out hI3.out
end Go.Proofs.Ytnimlcbgeiajiaa

namespace Go.Proofs.Ytnimlcbgeiajiaa
open Go.RowKit

set_option maxHeartbeats 8000000 in
set_option maxRecDepth 100000 in
theorem table_any {w : World} {L : Nat} {v : Value} {ac : List Bool} {lf : List Nat} {t : List (List (List Nat))} (h : IsTA w w.heap.size v (plainA L ac lf t)) (hok : MOK L ac lf t) (hL : L ≤ 8) (hL1 : 1 ≤ L) (hn : ac.length ≤ 20000) :
    Calls Try.prog 59 #[v] w (Ret fun r w' => Below w.heap.size w w' ∧ ∃ gl ga gv cv gi ci gj, r = .agg #[.int .i64 (L : Int), .slice (some ⟨gl, 0, none⟩) L L, .slice (some ⟨gv, 0, none⟩) L cv, .slice (some ⟨ga, 0, none⟩) ac.length ac.length] ∧
      TblW w' w.heap.size L ac.length gl ga gv cv gi ci gj (mleaf lf) (mbr t) (macc ac)) := by
  obtain ⟨A1, c1, A2, c2, A3, c3, rfl, h1, h2, h3⟩ := h
  have hpos := hok.pos hL1
  have h1' : Sl w w.heap.size 1 encI A1 ((accIdx ac).map fun (i : Nat) => (i : Int)) := h1
  have h2' : Sl w w.heap.size 2 encL A2 (plLv lf) := h2
  have h3' : Sl w w.heap.size 4 encBr A3 (plBr L ac.length t) := h3
  show Calls Try.prog 59 #[.agg #[.int .i64 (L : Int), .int .i64 (ac.length : Int), .slice A1 ((accIdx ac).map fun (i : Nat) => (i : Int)).length c1, .slice A2 (plLv lf).length c2, .slice A3 (plBr L ac.length t).length c3]] w _
  obtain ⟨w1, hw1, hb1, hB1, hk1⟩ := box_blk w #[.int .i64 (L : Int), .int .i64 (ac.length : Int), .slice A1 (accIdx ac).length c1, .slice A2 (plLv lf).length c2, .slice A3 (plBr L ac.length t).length c3] 26
  obtain ⟨w2, hw2, hb2, hB2, hk2⟩ := box_blk w1 #[.int .i64 0, .slice none 0 0, .slice none 0 0, .slice none 0 0] 84
  have hsz1 := hb1.size
  have hsz2 := hb2.size
  have hb02 := hb1.trans (hb2.mono hsz1)
  have hlt2 := hB2.lt
  have hX := hide (show TabX w2 w.heap.size L ac.length A1 A2 A3 c1 c2 c3 ((accIdx ac).map fun (i : Nat) => (i : Int)) (plLv lf) (plBr L ac.length t) from
    ⟨by rw [List.length_map]; exact hB1.below hb2, (h1'.below hb02).mono (by omega), (h2'.below hb02).mono (by omega), (h3'.below hb02).mono (by omega)⟩)
  have hFl := hide (fun (e : Leaf) (he : e ∈ plLv lf) => show ∃ x, x < L ∧ e = ⟨(x : Int), (mleaf lf x : Int)⟩ from by
    obtain ⟨x, hx, rfl⟩ := mem_plLv.1 he
    exact ⟨x, by rw [← hok.lfl]; exact hx, rfl⟩)
  have hFb := hide (fun (e : Branch) (he : e ∈ plBr L ac.length t) => mem_plBr.1 he)
  have hAa := hide (fun (q : Nat) (hq : q ∈ accIdx ac) => (mem_accIdx.1 hq).1)
  have hlfl := hide hok.lfl
  have hc1 := (hB1.below hb2).cell
  clear h1 h2 h3 h1' h2' h3' hok
  go_enter Try.func59, Try.ntmps59
  go_wp2_with (go_at_call 84; refine Calls.ret (blank_any hL hL1 hn hpos) ?_; rintro v6 w6 ⟨hb6, gl, ga, gv, cv, gi, ci, gj, rfl, hT6⟩
               obtain ⟨w7, hw7, hb7, hB7, hk7⟩ := box_blk w6 #[.int .i64 (L : Int), .slice (some ⟨gl, 0, none⟩) L L, .slice (some ⟨gv, 0, none⟩) L cv, .slice (some ⟨ga, 0, none⟩) ac.length ac.length] 84
               have hT7 := hide (show SubT w2 w7 L ac.length w6.heap.size gl ga gv cv gi ci gj (fun _ => 0) (fun _ _ _ => 0) (fun _ => false) from ⟨hb6.trans (hb7.mono hb6.size), hT6.below hb7, hB7, hb6.size⟩)
               clear hb6 hT6 hc1)
  refine tab_leaves hX.out hFl.out hT7.out ?_ ?_
  · repeat (first | exact Reg.NoQ.body (fun _ _ h => h) (fun _ h => h) | refine Reg.NoQ.then ?_ | refine Reg.NoQ.inBlock ?_)
  · iterate 23 (intro _)
    intro w8 lf8 hT8 hl8
    have hTH8 := hide hT8
    have hlH8 := hide hl8
    clear hT8 hl8
    go_wp2_with fail
    refine tab_branches hX.out hFb.out hTH8.out ?_ ?_
    · repeat (first | exact Reg.NoQ.body (fun _ _ h => h) (fun _ h => h) | refine Reg.NoQ.then ?_ | refine Reg.NoQ.inBlock ?_)
    · iterate 29 (intro _)
      intro w9 br9 hT9 hl9
      have hTH9 := hide hT9
      have hlH9 := hide hl9
      clear hT9 hl9
      go_wp2_with fail
      refine tab_acc hX.out hAa.out hTH9.out ?_ ?_
      · repeat (first | exact Reg.NoQ.body (fun _ _ h => h) (fun _ h => h) | refine Reg.NoQ.then ?_ | refine Reg.NoQ.inBlock ?_)
      · iterate 16 (intro _)
        intro wa acF hTa hla
        have hTH := hide hTa
        have hlaH := hide hla
        have hca := hTa.b.cell
        have hBa := hB2.below hTa.below
        have hc2a := hBa.cell
        have hf2a := hBa.frozen
        have hl2a := hBa.lt
        clear hTa hla
        go_wp2_with fail
        obtain ⟨wF, hwF, hgF, hkF⟩ := set4t_facts hBa (.int .i64 (L : Int)) (.slice (some ⟨gl, 0, none⟩) L L) (.slice (some ⟨gv, 0, none⟩) L cv) (.slice (some ⟨ga, 0, none⟩) ac.length ac.length)
        change bodyPost _ _ _ _ _ (set4t wa w1.heap.size (.int .i64 (L : Int)) (.slice (some ⟨gl, 0, none⟩) L L) (.slice (some ⟨gv, 0, none⟩) L cv) (.slice (some ⟨ga, 0, none⟩) ac.length ac.length))
        rw [hwF]
        have hcF := hgF.cell
        have hsa := hTH.out.below.size
        refine bodyPost_ret (v := .agg #[.int .i64 (L : Int), .slice (some ⟨gl, 0, none⟩) L L, .slice (some ⟨gv, 0, none⟩) L cv, .slice (some ⟨ga, 0, none⟩) ac.length ac.length]) (by simp [results, Try.results59, go_sem, hcF]) rfl
          ⟨(hb02.trans (hTH.out.below.mono (by omega))).trans (hkF.below (by omega) fun b hb e => by omega), gl, ga, gv, cv, gi, ci, gj, rfl, ?_⟩
        refine ((hTH.out.t.keep hkF fun k e => by omega).weak (by omega)).congr (fun x hx => hlH8.out x hx (mem_plLv.2 ⟨x, by rw [hlfl.out]; exact hx, rfl⟩)) (fun x i j hx hi hj => hlH9.out x i j hx hi hj (mem_plBr.2 ⟨x, i, j, hx, hi, hj, rfl⟩)) (fun q hq => ?_)
        rw [Bool.eq_iff_iff, hlaH.out q hq, mem_accIdx]
        exact ⟨fun h => h.2, fun h => ⟨hq, h⟩⟩
end Go.Proofs.Ytnimlcbgeiajiaa

namespace Go.Proofs.Ytnimlcbgeiajiaa
open Go.RowKit

/-- The error and the canonical automaton of a language. -/
def RelG (a : TA) (Λ : Tr → Bool) (e : Int) (b : TA) : Prop :=
  (a.valid = false ∧ e = 1 ∧ b = zTA) ∨ (a.valid = true ∧ a.Large ∧ e = 4 ∧ b = zTA) ∨
  (a.valid = true ∧ ¬ a.Large ∧ e = 0 ∧ ∃ ac lf t, MOK a.letters.toNat ac lf t ∧ ac.length ≤ 64 ∧ Canon a.letters.toNat ac.length (mleaf lf) (mbr t) (macc ac) Λ ∧ b = plainA a.letters.toNat ac lf t)
theorem RelG.unique {a b b' : TA} {Λ : Tr → Bool} {e e' : Int} (h : RelG a Λ e b) (h' : RelG a Λ e' b') : e = e' ∧ b = b' := by
  rcases h with ⟨h1, rfl, rfl⟩ | ⟨h1, h2, rfl, rfl⟩ | ⟨h1, h2, rfl, ac, lf, t, h3, h4, h5, rfl⟩ <;>
  rcases h' with ⟨g1, rfl, rfl⟩ | ⟨g1, g2, rfl, rfl⟩ | ⟨g1, g2, rfl, ac', lf', t', g3, g4, g5, rfl⟩ <;>
  first
  | exact ⟨rfl, rfl⟩
  | exact absurd (h1.symm.trans g1) (by decide)
  | exact (h2 g2).elim
  | exact (g2 h2).elim
  | exact ⟨rfl, (plain_same h3 g3 h5 g5 (fun _ _ => rfl)).symm⟩
theorem Canon.congr {L n : Nat} {leaf : Nat → Nat} {br : Nat → Nat → Nat → Nat} {acc : Nat → Bool} {Λ Λ' : Tr → Bool} (h : Canon L n leaf br acc Λ) (hΛ : ∀ t : Tr, t.ok L → Λ t = Λ' t) : Canon L n leaf br acc Λ' :=
  ⟨h.isM, fun tr htr => (h.lang tr htr).trans (hΛ tr htr), fun tr u htr hu hq => h.sep tr u htr hu fun r => EqT.congr (fun tr htr => (hΛ tr htr).symm) r tr u htr hu (hq r), h.ord⟩
theorem EqT.not {L : Nat} {Λ : Tr → Bool} (r : Nat) : ∀ t u : Tr, EqT L (fun t => !Λ t) r t u → EqT L Λ r t u := by
  induction r with
  | zero =>
    intro t u h
    have h' : (!Λ t) = !Λ u := h
    show Λ t = Λ u
    cases h1 : Λ t <;> cases h2 : Λ u <;> simp_all
  | succ r ih => exact fun t u h => ⟨ih t u h.1, fun x hx c hc => ⟨ih _ _ (h.2 x hx c hc).1, ih _ _ (h.2 x hx c hc).2⟩⟩
theorem Canon.compl {L n : Nat} {leaf : Nat → Nat} {br : Nat → Nat → Nat → Nat} {acc acc' : Nat → Bool} {Λ : Tr → Bool} (h : Canon L n leaf br acc Λ) (ha : ∀ q, q < n → acc' q = !acc q) : Canon L n leaf br acc' (fun t => !Λ t) :=
  ⟨h.isM, fun tr htr => by rw [ha _ (h.isM.run_lt tr htr), h.lang tr htr], fun tr u htr hu hq => h.sep tr u htr hu fun r => EqT.not r tr u (hq r), h.ord⟩
theorem macc_not {ac ac' : List Bool} (hl : ac'.length = ac.length) (h : ∀ q, q < ac.length → macc ac' q = !macc ac q) : ac' = ac.map (fun b => !b) := by
  apply List.ext_getElem?
  intro q
  by_cases hq : q < ac.length
  · obtain ⟨b, hb⟩ := get_lt hq
    obtain ⟨b', hb'⟩ := get_lt (l := ac') (i := q) (by omega)
    have := h q hq
    have e1 : macc ac q = b := getD_some hb
    have e2 : macc ac' q = b' := getD_some hb'
    rw [e1, e2] at this
    rw [hb', List.getElem?_map, hb, this]
    rfl
  · rw [List.getElem?_eq_none (by omega), List.getElem?_eq_none (by simp; omega)]
theorem mok_other {L : Nat} {ac ac' : List Bool} {lf : List Nat} {t : List (List (List Nat))} (h : MOK L ac lf t) (hl : ac'.length = ac.length) : MOK L ac' lf t :=
  ⟨h.lfl, by rw [hl]; exact h.tl, fun i r hr => ⟨by rw [hl]; exact (h.rl i r hr).1, (h.rl i r hr).2⟩, by rw [hl]; exact h.isM⟩

/-- What was built of the call's own reads as an automaton. -/
theorem OwnTA.own {w : World} {base L : Nat} {va : Value} {ac : List Bool} {lf : List Nat} {t : List (List (List Nat))} (h : OwnTA w base va L ac.length (accIdx ac) (plLv lf) (plBr L ac.length t)) (hok : MOK L ac lf t) (hL : L ≤ 8) : TAown w base va (plainA L ac lf t) := by
  obtain ⟨A1, c1, A2, c2, A3, c3, hv, s1, s2, s3⟩ := own_ta h
  obtain ⟨v1, v2, v3, hv', -, o2, -⟩ := h
  rw [hv] at hv'
  injection hv' with hv'
  simp only [Array.mk.injEq, List.cons.injEq, and_true] at hv'
  obtain ⟨-, -, -, e2, -⟩ := hv'
  refine ⟨A1, c1, A2, c2, A3, c3, _, hv, s1, s2, s3, by rw [← e2] at o2; exact o2, ?_⟩
  show (plLv lf).length ≤ 8
  simp only [plLv, List.length_map, List.length_range, hok.lfl]
  exact hL
theorem TAown.weak {w : World} {base base' : Nat} {v : Value} {b : TA} (h : TAown w base v b) (hb : base' ≤ base) : TAown w base' v b := by
  obtain ⟨A1, c1, A2, c2, A3, c3, xs, h1, h2, h3, h4, h5, h6⟩ := h
  exact ⟨A1, c1, A2, c2, A3, c3, xs, h1, h2, h3, h4, own_weak h5 hb, h6⟩
theorem TAown.zero (w : World) (base : Nat) : TAown w base zeroTA zTA := ⟨none, 0, none, 0, none, 0, [], rfl, Sl.nil rfl, Sl.nil rfl, Sl.nil rfl, own_nil, by simp [zTA]⟩
/-- A change of one block of structs. -/
theorem TAown.keep {w w' : World} {X : Nat → Prop} {base : Nat} {v : Value} {b : TA} {L : Nat} {ac : List Bool} {lf : List Nat} {t : List (List (List Nat))} (h : OwnTA w base v L ac.length (accIdx ac) (plLv lf) (plBr L ac.length t)) (hk : Kept w w' X) (hX : ∀ g e cs, X g → e ≠ 26 → ¬ Blk w g e cs) (hb : b = plainA L ac lf t) (hok : MOK L ac lf t) (hL : L ≤ 8) : TAown w' base v b := by
  subst hb
  obtain ⟨va, vl, vb, rfl, h1, h2, h3⟩ := h
  exact OwnTA.own ⟨va, vl, vb, rfl, own_ty hk h1 (fun g cs hx => hX g 3 cs hx (by decide)), own_ty hk h2 (fun g cs hx => hX g 36 cs hx (by decide)), own_ty hk h3 (fun g cs hx => hX g 59 cs hx (by decide))⟩ hok hL
/-- A pair of an automaton of the call's own and an error. -/
def ResG (w' : World) (base : Nat) (a : TA) (Λ : Tr → Bool) (v : Value) : Prop := ∃ e b vm, v = .tuple #[vm, .int .i64 e] ∧ RelG a Λ e b ∧ TAown w' base vm b
end Go.Proofs.Ytnimlcbgeiajiaa

namespace Go.Proofs.Ytnimlcbgeiajiaa
open Go.RowKit

theorem MachA.setAcc {w : World} {base gM L n gv cv : Nat} {vleaf vbr : Value} {ac : List Bool} {lf : List Nat} {t : List (List (List Nat))} (hn : ac.length = n) (h : MachA w base gM L (.slice (some ⟨gv, 0, none⟩) n cv) vleaf vbr ac lf t) {k : Nat} (hk : k < n) (b : Bool) :
    MachA (w.setCell ⟨gv, k, none⟩ (.bool b)) base gM L (.slice (some ⟨gv, 0, none⟩) n cv) vleaf vbr (ac.set k b) lf t := by
  subst hn
  have hks : Kept w (w.setCell ⟨gv, k, none⟩ (.bool b)) (fun j => j = gv) := (Kept.refl w (fun j => j = gv)).setCell (p := ⟨gv, k, none⟩) (fun _ => rfl) _
  have hne : ∀ (e : TypeId), 4 ≠ e → ∀ g cs, g = gv → ¬ Blk w g e cs := fun e he g cs eg hb => by subst eg; exact own_blk_ne h.acc hb he rfl
  obtain ⟨us, hu⟩ := h.tab.open
  refine ⟨h.blk.kept hks (fun e => hne 82 (by decide) _ _ e h.blk), ?_, own_ty hks h.lfs (hne 3 (by decide)), (hu.keep hks (hne 3 (by decide)) (hne 22 (by decide)) fun g hg hx => ?_).close⟩
  · have := own_set h.acc hk (.bool b)
    rw [List.length_set, List.map_set]
    exact this
  · obtain ⟨cs, hb⟩ := own_blk hu.own hg
    exact hne 104 (by decide) g cs hx hb

set_option maxHeartbeats 8000000 in
set_option maxRecDepth 100000 in
theorem com_flip {w : World} {base gM L : Nat} {vacc vleaf vbr : Value} {ac : List Bool} {lf : List Nat} {t : List (List (List Nat))} (hM : MachA w base gM L vacc vleaf vbr ac lf t) (hn : ac.length ≤ 20000) (hbase : base ≤ w.heap.size)
    {u0 u1 u2 u3 u4 u6 u7 u8 u9 u10 u11 u12 u13 u14 u15 u16 u17 u18 u19 u20 u21 u22 u23 u24 u25 u26 u29 u30 u31 u32 u33 u34 u35 u36 u37 u38 u39 u40 u41 u42 u43 u44 u45 u46 u47 : Value}
    {Q : Exit → Act → World → Prop} (hN : Reg.NoQ Q)
    (hQ : ∀ (x7 x28 x29 x30 x31 x32 x33 x34 x35 x36 x37 x38 x39 x40 x41 x42 x43 x44 x45 : Value) (w' : World), Below base w w' → MachA w' base gM L vacc vleaf vbr (ac.map fun b => !b) lf t → Q (.exit 0) ⟨List.toArray (u0 :: u1 :: u2 :: u3 :: u4 :: (.pointer (some ⟨gM, 0, none⟩)) :: u6 :: x7 :: u8 :: u9 :: u10 :: u11 :: u12 :: u13 :: u14 :: u15 :: u16 :: u17 :: u18 :: u19 :: u20 :: u21 :: u22 :: u23 :: u24 :: u25 :: u26 :: (.int .i64 ac.length) :: x28 :: x29 :: x30 :: x31 :: 
      x32 :: x33 :: x34 :: x35 :: x36 :: x37 :: x38 :: x39 :: x40 :: x41 :: x42 :: x43 :: x44 :: x45 :: u46 :: u47 :: []), []⟩ w') :
    (Code.loop (loopBody Try.f32 0)).wp Try.prog Q ⟨List.toArray (u0 :: u1 :: u2 :: u3 :: u4 :: (.pointer (some ⟨gM, 0, none⟩)) :: u6 :: u7 :: u8 :: u9 :: u10 :: u11 :: u12 :: u13 :: u14 :: u15 :: u16 :: u17 :: u18 :: u19 :: u20 :: u21 :: u22 :: u23 :: u24 :: u25 :: u26 :: (.int .i64 ac.length) :: (.int .i64 0) :: u29 :: u30 :: 
      u31 :: u32 :: u33 :: u34 :: u35 :: u36 :: u37 :: u38 :: u39 :: u40 :: u41 :: u42 :: u43 :: u44 :: u45 :: u46 :: u47 :: []), []⟩ w := by
  conv => arg 2; arg 1; whnf
  obtain ⟨A, cA, rfl⟩ := slice_of_own hM.acc
  go_loopw [28] (fun kk wr => ∃ (k : Nat) (ac' : List Bool), kk = .int .i64 (k : Int) ∧ k ≤ ac.length ∧ Below base w wr ∧ MachA wr base gM L (.slice A ac.length cA) vleaf vbr ac' lf t ∧ Hid (ac'.length = ac.length) ∧ Hid (∀ q, q < ac.length → macc ac' q = if q < k then !macc ac q else macc ac q)) (fun kk _ => ac.length - (intOf kk).toNat)
  case atStart => exact ⟨0, ac, rfl, Nat.zero_le _, Below.refl _ _, hM, rfl, fun q _ => by rw [if_neg (by omega)]⟩
  case round =>
    obtain ⟨k, ac', rfl, hk, hB, hM', hl, hI⟩ := hrel
    by_cases hlt : k < ac.length
    · obtain ⟨b, hb⟩ := get_lt (l := ac') (i := k) (by rw [hl.out]; exact hlt)
      obtain ⟨gv, cv, hv, hc⟩ := own_get hM'.acc (map_get (f := Value.bool) hb)
      injection hv with hv hv2 hv3
      clear hv2
      subst hv hv3
      have hMl : MachA wr base gM L (.slice (some ⟨gv, 0, none⟩) ac.length cA) vleaf vbr ac' lf t := hM'
      have hacc' : wr.ownsRow base 4 1 (.slice (some ⟨gv, 0, none⟩) ac.length cA) ac.length (ac'.map .bool) := by have := hMl.acc; rw [hl.out] at this; exact this
      have hcm := hMl.blk.cell
      have hfv := own_frozen hacc' k
      have hlv := own_lt hacc' rfl
      have hMd : MachA wr.drew base gM L (.slice (some ⟨gv, 0, none⟩) ac.length cA) vleaf vbr ac' lf t := hMl.keep ((Kept.refl wr (fun _ => False)).drew) (fun _ _ _ h => h.elim)
      have hst := hide (hMd.setAcc hl.out hlt (!b))
      have hbv := own_base hacc' rfl
      have hks : Kept wr (wr.drew.setCell ⟨gv, k, none⟩ (.bool !b)) (fun j => j = gv) := ((Kept.refl wr (fun j => j = gv)).drew).setCell (p := ⟨gv, k, none⟩) (fun _ => rfl) _
      have hBn := hide (hB.trans (hks.below (Nat.le_trans hbase hB.size) fun j hj e => by rw [e] at hj; exact Nat.lt_irrefl _ (Nat.lt_of_lt_of_le hj hbv)))
      have hbH := hide hb
      clear hMd hMl hM' hb hks hB hacc'
      cases b
      all_goals
        go_wp2_with fail
        refine Reg.region_plain [0, 1, 3, 7, 0, 0, 32, 96, 224, 0, 992, 2016, 4064, 8191, 16383] (by kernel_rfl) (by repeat (first | exact hN | refine Reg.NoQ.then ?_ | refine Reg.NoQ.inBlock ?_)) ?_
        go_wp2_with fail
        refine ⟨⟨k + 1, _, by go_num, by omega, hBn.out, hst.out, by show _ = _; simp [hl.out], fun q hq => ?_⟩, by simp [intOf]; omega⟩
        have e1 : macc ac' k = _ := getD_some hbH.out
        have h2 := hI.out k hlt
        rw [if_neg (by omega), e1] at h2
        by_cases e : q = k
        · subst e
          rw [if_pos (by omega), ← h2]
          unfold macc
          exact getD_some (by rw [List.getElem?_set_self (by rw [hl.out]; exact hlt)])
        · have h3 := hI.out q hq
          have h4 : ∀ c : Bool, macc (ac'.set k c) q = macc ac' q := fun c => by
            unfold macc
            rw [List.getD_eq_getElem?_getD, List.getD_eq_getElem?_getD, List.getElem?_set_ne (fun h => e h.symm)]
          rw [h4, h3]
          by_cases e2 : q < k
          · rw [if_pos e2, if_pos (by omega)]
          · rw [if_neg e2, if_neg (by omega)]
    · have e : k = ac.length := by omega
      have hfin := hide (macc_not hl.out fun q hq => by rw [hI.out q hq, if_pos (by omega)])
      have hMH := hide hM'
      have hBH := hide hB
      clear e hM' hB
      go_wp2_with fail
      have h1 := hMH.out
      rw [hfin.out] at h1
      exact hQ _ _ _ _ _ _ _ _ _ _ _ _ _ _ _ _ _ _ _ wr hBH.out h1
end Go.Proofs.Ytnimlcbgeiajiaa

namespace Go.Proofs.Ytnimlcbgeiajiaa
open Go.RowKit

set_option maxHeartbeats 8000000 in
set_option maxRecDepth 100000 in
theorem complement_any (v : Value) (a : TA) (w : World) (h : IsTA w w.heap.size v a) (hbig : a.branches.length ≤ 900000) :
    Calls Try.prog 32 #[v] w (Ret fun v w' => Below w.heap.size w w' ∧ ResG w' w.heap.size a (fun t => !a.lang t) v) := by
  obtain ⟨A1, c1, A2, c2, A3, c3, rfl, h1, h2, h3⟩ := h
  obtain ⟨w1, hw1, hb1, hB1, hk1⟩ := box_blk w #[.int .i64 a.letters, .int .i64 a.states, .slice A1 a.accept.length c1, .slice A2 a.leaves.length c2, .slice A3 a.branches.length c3] 26
  obtain ⟨w2, hw2, hb2, hB2, hk2⟩ := box_blk w1 #[.int .i64 0, .int .i64 0, .slice none 0 0, .slice none 0 0, .slice none 0 0] 26
  have hsz1 := hb1.size
  have hsz2 := hb2.size
  have hB12 := hB1.kept hk2 id
  have hcb := hB12.cell
  have hb02 : Below w.heap.size w w2 := hb1.trans (hb2.mono hsz1)
  have hT : IsTA w2 w2.heap.size (.agg #[.int .i64 a.letters, .int .i64 a.states, .slice A1 a.accept.length c1, .slice A2 a.leaves.length c2, .slice A3 a.branches.length c3]) a :=
    IsTA.keep ⟨A1, c1, A2, c2, A3, c3, rfl, h1, h2, h3⟩ (fun _ hp => hb02.cell hp) (by omega)
  have hTT := hide hT
  clear hT h1 h2 h3
  go_enter Try.func32, Try.ntmps32
  go_wp2_with fail
  refine (validate_any _ a w2 hTT.out).mono ?_
  rintro e w3 ⟨rfl, hb3⟩
  have hB13 := hB12.below hb3
  have hB23 := hB2.below hb3
  have hcb3 := hB13.cell
  have hc23 := hB23.cell
  have hf23 := hB23.frozen
  have hsz3 := hb3.size
  have hlt3 := hB23.lt
  have hb03 : Below w.heap.size w w3 := hb02.trans (hb3.mono (by omega))
  cases hv : a.valid with
  | false =>
    have hvv := hide hv
    clear hv
    have he : errno false = 1 := rfl
    rw [he]
    go_wp2_with fail
    obtain ⟨wF, hwF, hgF, hkF⟩ := set5_facts hB23 (.int .i64 0) (.int .i64 0) (.slice none 0 0) (.slice none 0 0) (.slice none 0 0)
    change bodyPost _ _ _ _ _ (set5 w3 w1.heap.size (.int .i64 0) (.int .i64 0) (.slice none 0 0) (.slice none 0 0) (.slice none 0 0))
    rw [hwF]
    have hcF := hgF.cell
    exact bodyPost_ret (v := .tuple #[zeroTA, .int .i64 1]) (by simp [results, Try.results32, go_sem, hcF, zeroTA]) rfl ⟨hb03.trans (hkF.below (by omega) (fun b hb e => by omega)), 1, zTA, zeroTA, rfl, .inl ⟨hvv.out, rfl, rfl⟩, TAown.zero _ _⟩
  | true =>
    have hvv := hide hv
    have hbg := hide hbig
    clear hv hbig
    have he : errno true = 0 := rfl
    rw [he]
    have hT3 : IsTA w3 w3.heap.size (.agg #[.int .i64 a.letters, .int .i64 a.states, .slice A1 a.accept.length c1, .slice A2 a.leaves.length c2, .slice A3 a.branches.length c3]) a := hTT.out.keep (fun _ hp => hb3.cell hp) hsz3
    have hT33 := hide hT3
    clear hT3 he
    go_wp2_with fail
    refine Calls.ret (treeMin_any _ a w3 hT33.out hvv.out hbg.out) ?_
    rintro v w4 ⟨hb4, hres⟩
    have hB24 := hB23.below hb4
    have hc24 := hB24.cell
    have hf24 := hB24.frozen
    have hsz4 := hb4.size
    have hlt4 := hB24.lt
    have hb04 : Below w.heap.size w w4 := hb03.trans (hb4.mono (by omega))
    rcases hres with ⟨rfl, hlg⟩ | ⟨gM, ac, lf, t, rfl, hgM, hM, hok, hle, hnl, hcan⟩
    · have hL := hide hlg
      clear hlg
      go_wp2_with fail
      obtain ⟨wF, hwF, hgF, hkF⟩ := set5_facts hB24 (.int .i64 0) (.int .i64 0) (.slice none 0 0) (.slice none 0 0) (.slice none 0 0)
      change bodyPost _ _ _ _ _ (set5 w4 w1.heap.size (.int .i64 0) (.int .i64 0) (.slice none 0 0) (.slice none 0 0) (.slice none 0 0))
      rw [hwF]
      have hcF := hgF.cell
      exact bodyPost_ret (v := .tuple #[zeroTA, .int .i64 4]) (by simp [results, Try.results32, go_sem, hcF, zeroTA]) rfl ⟨hb04.trans (hkF.below (by omega) (fun b hb e => by omega)), 4, zTA, zeroTA, rfl, .inr (.inl ⟨hvv.out, hL.out, rfl, rfl⟩), TAown.zero _ _⟩
    · obtain ⟨u1, u2, u3, hMA⟩ := hM
      obtain ⟨A9, c9, rfl⟩ := slice_of_own hMA.acc
      have hcM := hMA.blk.cell
      have hMM := hide hMA
      have hOO := hide (mok_other hok (ac' := ac.map fun b => !b) (by simp))
      have hNL := hide hnl
      have hCC := hide (show Canon a.letters.toNat (ac.map fun b => !b).length (mleaf lf) (mbr t) (macc (ac.map fun b => !b)) (fun t => !a.lang t) from by
        rw [List.length_map]
        refine hcan.compl fun q hq => ?_
        obtain ⟨b, hb⟩ := get_lt hq
        have e1 : macc ac q = b := getD_some hb
        rw [e1]
        exact getD_some (map_get (f := fun b => !b) hb))
      have hL8 : a.letters.toNat ≤ 8 := by
        have := TA.valid_parts hvv.out
        omega
      have hml : (ac.map fun b => !b).length = ac.length := by simp
      have hmlH := hide hml
      clear hMA hok hnl hcan hml
      go_wp2_with fail
      refine com_flip hMM.out (by omega) hsz4 ?_ ?_
      · repeat (first | exact Reg.NoQ.body (fun _ _ h => h) (fun _ h => h) | refine Reg.NoQ.then ?_ | refine Reg.NoQ.inBlock ?_)
      iterate 19 (intro _)
      intro w5 hb5 hM5
      have hMM5 := hide hM5
      have hb35 : Below w3.heap.size w3 w5 := hb4.trans hb5
      have hB25 := hB23.below hb35
      have hc25 := hB25.cell
      have hf25 := hB25.frozen
      have hlt5 := hB25.lt
      have hb05 : Below w.heap.size w w5 := hb03.trans (hb35.mono (by omega))
      have hsz5 := hb5.size
      generalize hacn : (ac.map fun b => !b) = acn at *
      have hacH := hide hacn
      clear hM5 hcM hc24 hf24 hc23 hf23 hacn
      go_wp2_with fail
      refine Calls.ret (plain_any hMM5.out hOO.out hL8 (by have := hmlH.out; omega)) ?_
      rintro v w6 ⟨hb6, hown⟩
      have hownH := hide hown
      obtain ⟨va, vl, vb, rfl, ho1, ho2, ho3⟩ := hown
      obtain ⟨A5, d5, rfl⟩ := slice_of_own ho1
      obtain ⟨A6, d6, rfl⟩ := slice_of_own ho2
      obtain ⟨A7, d7, rfl⟩ := slice_of_own ho3
      have hB26 := hB25.below hb6
      have hc26 := hB26.cell
      have hf26 := hB26.frozen
      have hsz6 := hb6.size
      have hlt6 := hB26.lt
      have hb06 : Below w.heap.size w w6 := hb05.trans (hb6.mono (by have := hb05.size; omega))
      generalize hLe : a.letters.toNat = L at *
      have hLh := hide hLe
      clear hLe ho1 ho2 ho3 hc25 hf25 hcb3 hcb
      go_wp2_with fail
      obtain ⟨wF, hwF, hgF, hkF⟩ := set5_facts hB26 (.int .i64 (L : Int)) (.int .i64 (acn.length : Int)) (.slice A5 (accIdx acn).length d5) (.slice A6 (plLv lf).length d6) (.slice A7 (plBr L acn.length t).length d7)
      change bodyPost _ _ _ _ _ (set5 w6 w1.heap.size (.int .i64 (L : Int)) (.int .i64 (acn.length : Int)) (.slice A5 (accIdx acn).length d5) (.slice A6 (plLv lf).length d6) (.slice A7 (plBr L acn.length t).length d7))
      rw [hwF]
      have hcF := hgF.cell
      have hLx := hLh.out
      subst hLx
      have hne : ∀ g e cs, g = w1.heap.size → e ≠ 26 → ¬ Blk w6 g e cs := fun g e cs eg he hb => by subst eg; exact hB26.ne_ hb (fun h => he h.symm) rfl
      have hsz05 := hb05.size
      exact bodyPost_ret (v := .tuple #[.agg #[.int .i64 (a.letters.toNat : Int), .int .i64 (acn.length : Int), .slice A5 (accIdx acn).length d5, .slice A6 (plLv lf).length d6, .slice A7 (plBr a.letters.toNat acn.length t).length d7], .int .i64 0]) (by simp [results, Try.results32, go_sem, hcF]) rfl
        ⟨hb06.trans (hkF.below (by omega) (fun b hb e => by omega)), 0, plainA a.letters.toNat acn lf t, _, rfl, .inr (.inr ⟨hvv.out, hNL.out, rfl, acn, lf, t, hOO.out, by have := hmlH.out; omega, hCC.out, rfl⟩), (TAown.keep hownH.out hkF hne rfl hOO.out hL8).weak (by omega)⟩
end Go.Proofs.Ytnimlcbgeiajiaa

namespace Go.Proofs.Ytnimlcbgeiajiaa
open Go.RowKit

theorem macc_map {ac : List Bool} {q : Nat} (hq : q < ac.length) : macc (ac.map fun b => !b) q = !macc ac q := by
  obtain ⟨b, hb⟩ := get_lt hq
  have e1 : macc ac q = b := getD_some hb
  rw [e1]
  exact getD_some (map_get (f := fun b => !b) hb)

set_option maxHeartbeats 8000000 in
set_option maxRecDepth 100000 in
theorem comr_flip {wB w : World} {g6 L n gl ga gv cv : Nat} {gi ci : Nat → Nat} {gj : Nat → Nat → Nat} {lf : Nat → Nat} {br : Nat → Nat → Nat → Nat} {ac : List Bool} (hT : SubT wB w L n g6 gl ga gv cv gi ci gj lf br (macc ac)) (hl : ac.length = n) (hn : n ≤ 20000)
    {u0 u1 u2 u3 u4 u5 u8 u9 u10 u11 u12 u13 u14 u15 u16 u17 u18 u19 u20 u21 u22 u23 u24 u25 u26 u27 u28 u29 u30 u31 u32 u33 u34 u35 u36 u37 : Value}
    {Q : Exit → Act → World → Prop} (hN : Reg.NoQ Q)
    (hQ : ∀ (x7 x19 x20 x21 x22 x23 x24 x25 x26 x27 x28 x29 x30 x31 x32 x33 x34 x35 : Value) (w' : World), SubT wB w' L n g6 gl ga gv cv gi ci gj lf br (macc (ac.map fun b => !b)) → Q (.exit 0) ⟨List.toArray (u0 :: u1 :: u2 :: u3 :: u4 :: u5 :: (.pointer (some ⟨g6, 0, none⟩)) :: x7 :: u8 :: u9 :: u10 :: u11 :: u12 :: u13 :: u14 :: u15 :: u16 :: u17 :: u18 :: x19 :: x20 :: x21 :: x22 :: x23 :: x24 :: x25 :: x26 :: x27 :: x28 :: x29 :: x30 :: x31 :: x32 :: x33 :: x34 :: 
      x35 :: u36 :: u37 :: []), []⟩ w') :
    (Code.loop (loopBody Try.f33 0)).wp Try.prog Q ⟨List.toArray (u0 :: u1 :: u2 :: u3 :: u4 :: u5 :: (.pointer (some ⟨g6, 0, none⟩)) :: (.int .i64 0) :: u8 :: u9 :: u10 :: u11 :: u12 :: u13 :: u14 :: u15 :: u16 :: u17 :: u18 :: u19 :: u20 :: u21 :: u22 :: u23 :: u24 :: u25 :: u26 :: u27 :: u28 :: u29 :: u30 :: u31 :: u32 :: 
      u33 :: u34 :: u35 :: u36 :: u37 :: []), []⟩ w := by
  conv => arg 2; arg 1; whnf
  have hlH := hide hl
  clear hl
  go_loopw [7] (fun kk wr => ∃ (k : Nat) (ac' : Nat → Bool), kk = .int .i64 (k : Int) ∧ k ≤ n ∧ SubT wB wr L n g6 gl ga gv cv gi ci gj lf br ac' ∧ Hid (∀ q, q < n → ac' q = if q < k then !macc ac q else macc ac q)) (fun kk _ => n - (intOf kk).toNat)
  case atStart => exact ⟨0, _, rfl, Nat.zero_le _, hT, fun q _ => by rw [if_neg (by omega)]⟩
  case round =>
    obtain ⟨k, ac', rfl, hk, hT', hI⟩ := hrel
    have hc6 := hT'.b.cell
    by_cases hlt : k < n
    · have hca : wr.cell? ⟨ga, k, none⟩ = some (.bool (ac' k)) := by rw [hT'.t.acc.cell, rangeC_get _ hlt]
      have hfa := hT'.t.acc.frozen k
      have hla := hT'.t.acc.lt
      obtain ⟨b, hb⟩ : ∃ b, ac' k = b := ⟨_, rfl⟩
      rw [hb] at hca
      have hbH := hide hb
      have hst := hide (hT'.drew.setAcc k (!b))
      clear hT' hb
      cases b
      all_goals
        go_wp2_with fail
        refine Reg.region_plain [0, 1, 0, 0, 8, 0, 56, 120, 248, 511, 1023] (by kernel_rfl) (by repeat (first | exact hN | refine Reg.NoQ.then ?_ | refine Reg.NoQ.inBlock ?_)) ?_
        go_wp2_with fail
        refine ⟨⟨k + 1, _, by go_num, by omega, hst.out, fun q hq => ?_⟩, by simp [intOf]; omega⟩
        have h2 := hI.out k hlt
        rw [if_neg (by omega), hbH.out] at h2
        unfold up1
        by_cases e : q = k
        · subst e
          rw [if_pos rfl, if_pos (by omega), ← h2]
        · rw [if_neg e, hI.out q hq]
          by_cases e2 : q < k
          · rw [if_pos e2, if_pos (by omega)]
          · rw [if_neg e2, if_neg (by omega)]
    · have e : k = n := by omega
      have hTH := hide (show SubT wB wr L n g6 gl ga gv cv gi ci gj lf br (macc (ac.map fun b => !b)) from
        ⟨hT'.below, hT'.t.congr (fun _ _ => rfl) (fun _ _ _ _ _ _ => rfl) (fun q hq => by rw [hI.out q hq, if_pos (by omega), macc_map (by rw [hlH.out]; exact hq)]), hT'.b, hT'.h13⟩)
      clear e hT'
      go_wp2_with fail
      first | exact hTH.out | exact hQ _ _ _ _ _ _ _ _ _ _ _ _ _ _ _ _ _ _ wr hTH.out

set_option maxHeartbeats 8000000 in
set_option maxRecDepth 100000 in
theorem refComplement_any (v : Value) (a : TA) (w : World) (h : IsTA w w.heap.size v a) :
    Calls Try.prog 33 #[v] w (Ret fun v w' => Below w.heap.size w w' ∧ ResG w' w.heap.size a (fun t => !a.lang t) v) := by
  obtain ⟨A1, c1, A2, c2, A3, c3, rfl, h1, h2, h3⟩ := h
  obtain ⟨w1, hw1, hb1, hB1, hk1⟩ := box_blk w #[.int .i64 a.letters, .int .i64 a.states, .slice A1 a.accept.length c1, .slice A2 a.leaves.length c2, .slice A3 a.branches.length c3] 26
  obtain ⟨w2, hw2, hb2, hB2, hk2⟩ := box_blk w1 #[.int .i64 0, .int .i64 0, .slice none 0 0, .slice none 0 0, .slice none 0 0] 26
  have hsz1 := hb1.size
  have hsz2 := hb2.size
  have hB12 := hB1.kept hk2 id
  have hcb := hB12.cell
  have hb02 : Below w.heap.size w w2 := hb1.trans (hb2.mono hsz1)
  have hlt2 := hB2.lt
  have hT : IsTA w2 w2.heap.size (.agg #[.int .i64 a.letters, .int .i64 a.states, .slice A1 a.accept.length c1, .slice A2 a.leaves.length c2, .slice A3 a.branches.length c3]) a :=
    IsTA.keep ⟨A1, c1, A2, c2, A3, c3, rfl, h1, h2, h3⟩ (fun _ hp => hb02.cell hp) (by omega)
  have hTT := hide hT
  clear hT h1 h2 h3
  go_enter Try.func33, Try.ntmps33
  go_wp2_with fail
  refine Calls.ret (refMinimal_any _ a w2 hTT.out) ?_
  rintro v3 w3 ⟨hb3, hres⟩
  have hB23 := hB2.below hb3
  have hc23 := hB23.cell
  have hf23 := hB23.frozen
  have hsz3 := hb3.size
  have hlt3 := hB23.lt
  have hb03 : Below w.heap.size w w3 := hb02.trans (hb3.mono (by omega))
  rcases hres with ⟨hv, rfl⟩ | ⟨hv, hlg, rfl⟩ | ⟨hv, hnl, ac, lf, t, va, rfl, hok, hle, hcan, hown⟩
  · have hvv := hide hv
    clear hv
    unfold zeroTA
    obtain ⟨w4, hw4, hb4, hB4, hk4⟩ := box_blk w3 #[.int .i64 0, .int .i64 0, .slice none 0 0, .slice none 0 0, .slice none 0 0] 26
    have hc4 := hB4.cell
    have hf4 := hB4.frozen
    have hl4 := hB4.lt
    obtain ⟨w5, hw5, hg5, hk5⟩ := set5_facts hB4 (.int .i64 0) (.int .i64 0) (.slice none 0 0) (.slice none 0 0) (.slice none 0 0)
    have hb35 : Below w3.heap.size w3 w5 := hb4.trans (hk5.below hb4.size fun b hb e => by omega)
    have hB25 := hB23.below hb35
    have hc25 := hB25.cell
    have hf25 := hB25.frozen
    have hl25 := hB25.lt
    have hw5' := hw5
    simp only [set5] at hw5'
    have hs5 := hb35.size
    clear hcb hc23 hf23 hw5
    go_wp2_with fail
    obtain ⟨wF, hwF, hgF, hkF⟩ := set5_facts hB25 (.int .i64 0) (.int .i64 0) (.slice none 0 0) (.slice none 0 0) (.slice none 0 0)
    change bodyPost _ _ _ _ _ (set5 w5 w1.heap.size (.int .i64 0) (.int .i64 0) (.slice none 0 0) (.slice none 0 0) (.slice none 0 0))
    rw [hwF]
    have hcF := hgF.cell
    exact bodyPost_ret (v := .tuple #[zeroTA, .int .i64 1]) (by simp [results, Try.results33, go_sem, hcF, zeroTA]) rfl ⟨(hb03.trans (hb35.mono (by omega))).trans (hkF.below (by omega) (fun b hb e => by omega)), 1, zTA, zeroTA, rfl, .inl ⟨hvv.out, rfl, rfl⟩, TAown.zero _ _⟩
  · have hvv := hide hv
    have hL := hide hlg
    clear hv hlg
    unfold zeroTA
    obtain ⟨w4, hw4, hb4, hB4, hk4⟩ := box_blk w3 #[.int .i64 0, .int .i64 0, .slice none 0 0, .slice none 0 0, .slice none 0 0] 26
    have hc4 := hB4.cell
    have hf4 := hB4.frozen
    have hl4 := hB4.lt
    obtain ⟨w5, hw5, hg5, hk5⟩ := set5_facts hB4 (.int .i64 0) (.int .i64 0) (.slice none 0 0) (.slice none 0 0) (.slice none 0 0)
    have hb35 : Below w3.heap.size w3 w5 := hb4.trans (hk5.below hb4.size fun b hb e => by omega)
    have hB25 := hB23.below hb35
    have hc25 := hB25.cell
    have hf25 := hB25.frozen
    have hl25 := hB25.lt
    have hw5' := hw5
    simp only [set5] at hw5'
    have hs5 := hb35.size
    clear hcb hc23 hf23 hw5
    go_wp2_with fail
    obtain ⟨wF, hwF, hgF, hkF⟩ := set5_facts hB25 (.int .i64 0) (.int .i64 0) (.slice none 0 0) (.slice none 0 0) (.slice none 0 0)
    change bodyPost _ _ _ _ _ (set5 w5 w1.heap.size (.int .i64 0) (.int .i64 0) (.slice none 0 0) (.slice none 0 0) (.slice none 0 0))
    rw [hwF]
    have hcF := hgF.cell
    exact bodyPost_ret (v := .tuple #[zeroTA, .int .i64 4]) (by simp [results, Try.results33, go_sem, hcF, zeroTA]) rfl ⟨(hb03.trans (hb35.mono (by omega))).trans (hkF.below (by omega) (fun b hb e => by omega)), 4, zTA, zeroTA, rfl, .inr (.inl ⟨hvv.out, hL.out, rfl, rfl⟩), TAown.zero _ _⟩
  · have hvv := hide hv
    have hNL := hide hnl
    have hOK := hide hok
    have hCAN := hide hcan
    have hL18 : 1 ≤ a.letters.toNat ∧ a.letters.toNat ≤ 8 := by
      have := TA.valid_parts hv
      omega
    generalize hLe : a.letters.toNat = L at *
    have hLh := hide hLe
    have hM3 := hide (own_ta hown)
    obtain ⟨B1, d1, B2, d2, B3, d3, rfl, -, -, -⟩ := own_ta hown
    clear hv hnl hok hcan hown hLe
    obtain ⟨w4, hw4, hb4, hB4, hk4⟩ := box_blk w3 #[.int .i64 (plainA L ac lf t).letters, .int .i64 (plainA L ac lf t).states, .slice B1 (plainA L ac lf t).accept.length d1, .slice B2 (plainA L ac lf t).leaves.length d2, .slice B3 (plainA L ac lf t).branches.length d3] 26
    have hc4 := hB4.cell
    have hM4 := hide (hM3.out.keep (fun _ hp => hb4.cell hp) hb4.size)
    have hs4 := hb4.size
    generalize hpA : plainA L ac lf t = pA at *
    have hpH := hide hpA
    clear hpA hcb hc23 hf23
    go_wp2_with (go_at_call 59; refine Calls.ret (table_any (by rw [hpH.out]; exact hM4.out) hOK.out hL18.2 hL18.1 (by omega)) ?_; rintro v5 w5 ⟨hb5, gl, ga, gv, cv, gi, ci, gj, rfl, hT5⟩
                 obtain ⟨w6, hw6, hb6, hB6, hk6⟩ := box_blk w5 #[.int .i64 (L : Int), .slice (some ⟨gl, 0, none⟩) L L, .slice (some ⟨gv, 0, none⟩) L cv, .slice (some ⟨ga, 0, none⟩) ac.length ac.length] 84
                 have hT6 := hide (show SubT w4 w6 L ac.length w5.heap.size gl ga gv cv gi ci gj (mleaf lf) (mbr t) (macc ac) from ⟨hb5.trans (hb6.mono hb5.size), hT5.below hb6, hB6, hb5.size⟩)
                 clear hb5 hT5 hc4)
    refine comr_flip hT6.out rfl (by omega) ?_ ?_
    · repeat (first | exact Reg.NoQ.body (fun _ _ h => h) (fun _ h => h) | refine Reg.NoQ.then ?_ | refine Reg.NoQ.inBlock ?_)
    iterate 18 (intro _)
    intro w7 hT7
    have hc7 := hT7.b.cell
    have hb47 : Below w4.heap.size w4 w7 := hT7.below
    have hml : (ac.map fun b => !b).length = ac.length := by simp
    have hF7 := hide (show TblF w7 L (ac.map fun b => !b).length (.slice (some ⟨gl, 0, none⟩) L L) (.slice (some ⟨gv, 0, none⟩) L cv) (.slice (some ⟨ga, 0, none⟩) ac.length ac.length) (mleaf lf) (mbr t) (macc (ac.map fun b => !b)) from by rw [hml]; exact hT7.t.read)
    have hOK7 := hide (mok_other hOK.out hml)
    have hb27 : Below w2.heap.size w2 w7 := hb3.trans ((hb4.trans (hb47.mono hs4)).mono hsz3)
    have hs7 := hb27.size
    have hb07 := hide (hb02.trans (hb27.mono (by omega)))
    have hB27 := hide (hB2.below hb27)
    have hmlH := hide hml
    clear hT7 hb47 hml hb27
    go_wp2_with (go_at_call 60; refine Calls.ret (canonical_any hF7.out hOK7.out (by have := hmlH.out; omega) hL18.2 hL18.1) ?_; rintro v8 w8 ⟨hb8, ac', lf', t', hok', hle', hcan', hown'⟩
                 have hownH := hide hown'
                 obtain ⟨va', vl', vb', rfl, ho1, ho2, ho3⟩ := hown'
                 obtain ⟨A5, d5, rfl⟩ := slice_of_own ho1
                 obtain ⟨A6, d6, rfl⟩ := slice_of_own ho2
                 obtain ⟨A7, d7, rfl⟩ := slice_of_own ho3
                 have hB28 := hB27.out.below hb8
                 have hc28 := hB28.cell
                 have hf28 := hB28.frozen
                 have hl28 := hB28.lt
                 have hBH8 := hide hB28
                 have hbH8 := hide hb8
                 have hokH := hide hok'
                 have hcanH := hide hcan'
                 have hleH := hide hle'
                 clear hB28 hb8 hok' hcan' ho1 ho2 ho3 hc7 hle')
    obtain ⟨wF, hwF, hgF, hkF⟩ := set5_facts hBH8.out (.int .i64 (L : Int)) (.int .i64 (ac'.length : Int)) (.slice A5 (accIdx ac').length d5) (.slice A6 (plLv lf').length d6) (.slice A7 (plBr L ac'.length t').length d7)
    change bodyPost _ _ _ _ _ (set5 w8 w1.heap.size (.int .i64 (L : Int)) (.int .i64 (ac'.length : Int)) (.slice A5 (accIdx ac').length d5) (.slice A6 (plLv lf').length d6) (.slice A7 (plBr L ac'.length t').length d7))
    rw [hwF]
    have hcF := hgF.cell
    have hs8 := hbH8.out.size
    have hne : ∀ g e cs, g = w1.heap.size → e ≠ 26 → ¬ Blk w8 g e cs := fun g e cs eg he hb => by subst eg; exact hBH8.out.ne_ hb (fun h => he h.symm) rfl
    have hs07 := hb07.out.size
    have hlen64 : ac'.length ≤ 64 := by have := hleH.out; rw [hmlH.out] at this; omega
    have hLx := hLh.out
    subst hLx
    have hcan2 := hcanH.out.congr (Λ' := fun t => !a.lang t) fun tr htr => by
      have h1 := hCAN.out.lang tr htr
      have h2 := hCAN.out.isM.run_lt tr htr
      rw [macc_map h2, h1]
    exact bodyPost_ret (v := .tuple #[.agg #[.int .i64 (a.letters.toNat : Int), .int .i64 (ac'.length : Int), .slice A5 (accIdx ac').length d5, .slice A6 (plLv lf').length d6, .slice A7 (plBr a.letters.toNat ac'.length t').length d7], .int .i64 0]) (by simp [results, Try.results33, go_sem, hcF]) rfl
      ⟨(hb07.out.trans (hbH8.out.mono (by omega))).trans (hkF.below (by omega) fun b hb e => by omega), 0, plainA a.letters.toNat ac' lf' t', _, rfl, .inr (.inr ⟨hvv.out, hNL.out, rfl, ac', lf', t', hokH.out, hlen64, hcan2, rfl⟩), (TAown.keep hownH.out hkF hne rfl hokH.out hL18.2).weak (by omega)⟩
end Go.Proofs.Ytnimlcbgeiajiaa
