/-
  The reference's table: the table of a canonical automaton.
  The reference's table: the walk joined.
  Results of operations by relation; the canonical machine of the other trees: plain Lean.
-/
import Derived.Test.YtnimlcbgeiajiaaQI
import Derived.Test.YtnimlcbgeiajiaaQE

namespace Go.Proofs.Ytnimlcbgeiajiaa
open Go.RowKit

theorem TblW.congr {w : World} {base L n gl ga gv cv : Nat} {gi ci : Nat → Nat} {gj : Nat → Nat → Nat} {lf lf' : Nat → Nat} {br br' : Nat → Nat → Nat → Nat} {ac ac' : Nat → Bool} (h : TblW w base L n gl ga gv cv gi ci gj lf br ac)
    (h1 : ∀ x, x < L → lf x = lf' x) (h2 : ∀ x i k, x < L → i < n → k < n → br x i k = br' x i k) (h3 : ∀ q, q < n → ac q = ac' q) : TblW w base L n gl ga gv cv gi ci gj lf' br' ac' :=
  ⟨Eq.mp (congrArg (Blk w gl 3) (rangeC_congr fun x hx => by rw [h1 x hx])) h.leaf, Eq.mp (congrArg (Blk w ga 4) (rangeC_congr fun q hq => by rw [h3 q hq])) h.acc, h.top, h.topc, h.mid,
    fun x hx i hi => Eq.mp (congrArg (Blk w (gj x i) 3) (rangeC_congr fun k hk => by rw [h2 x i k hx hi hk])) (h.row x hx i hi), h.bl, h.ba, h.bv, h.bi, h.bj, h.nl, h.nj⟩
theorem take_new {D : Type} {l : List D} {k : Nat} {x y : D} (hx : l[k]? = some x) (hy : y ∈ l.take (k + 1)) : y ∈ l.take k ∨ y = x := by
  rw [take_snoc hx] at hy
  rcases List.mem_append.1 hy with h | h
  · exact .inl h
  · exact .inr (List.mem_singleton.1 h)

/-- What table reads. -/
structure TabX (w : World) (g1 L n : Nat) (A1 A2 A3 : Option Addr) (c1 c2 c3 : Nat) (acc : List Int) (lv : List Leaf) (brs : List Branch) : Prop where
  b : Blk w g1 26 #[.int .i64 (L : Int), .int .i64 (n : Int), .slice A1 acc.length c1, .slice A2 lv.length c2, .slice A3 brs.length c3]
  s1 : Sl w w.heap.size 1 encI A1 acc
  s2 : Sl w w.heap.size 2 encL A2 lv
  s3 : Sl w w.heap.size 4 encBr A3 brs
theorem TabX.at {w w' : World} {g1 L n : Nat} {A1 A2 A3 : Option Addr} {c1 c2 c3 : Nat} {acc : List Int} {lv : List Leaf} {brs : List Branch} (h : TabX w g1 L n A1 A2 A3 c1 c2 c3 acc lv brs) (hb : Below w.heap.size w w') : TabX w' g1 L n A1 A2 A3 c1 c2 c3 acc lv brs :=
  ⟨h.b.below hb, (h.s1.below hb).mono hb.size, (h.s2.below hb).mono hb.size, (h.s3.below hb).mono hb.size⟩

set_option maxHeartbeats 8000000 in
set_option maxRecDepth 100000 in
theorem tab_leaves {wB w : World} {g1 g13 L n gl ga gv cv : Nat} {gi ci : Nat → Nat} {gj : Nat → Nat → Nat} {A1 A2 A3 : Option Addr} {c1 c2 c3 : Nat} {acc : List Int} {lv : List Leaf} {brs : List Branch} (hX : TabX wB g1 L n A1 A2 A3 c1 c2 c3 acc lv brs)
    {F : Nat → Nat} (hF : ∀ e ∈ lv, ∃ x, x < L ∧ e = ⟨(x : Int), (F x : Int)⟩)
    {lf : Nat → Nat} {br : Nat → Nat → Nat → Nat} {ac : Nat → Bool} (hT : SubT wB w L n g13 gl ga gv cv gi ci gj lf br ac)
    {u0 u2 u5 u6 u7 u8 u9 u10 u11 u12 u13 u14 u15 u16 u17 u18 u19 u20 u21 u22 u23 u24 u25 u26 u27 u28 u29 u30 u31 u32 u33 u34 u35 u36 u37 u38 u39 u40 u41 u42 u43 u44 u45 u46 u47 u48 u49 u50 u51 u52 u53 u54 u55 u56 u57 u58 u59 u60 u61 u62 u63 u64 u65 u66 u67 u68 u69 u70 u71 u72 u73 u74 u75 u76 u77 : Value}
    {Q : Exit → Act → World → Prop} (hN : Reg.NoQ Q)
    (hQ : ∀ (x4 x13 x14 x15 x16 x17 x18 x19 x20 x21 x22 x23 x24 x25 x26 x27 x28 x29 x30 x31 x32 x33 x34 : Value) (w' : World) (lf' : Nat → Nat), SubT wB w' L n g13 gl ga gv cv gi ci gj lf' br ac → (∀ x, x < L → (⟨(x : Int), (F x : Int)⟩ : Leaf) ∈ lv → lf' x = F x) → Q (.exit 0) ⟨List.toArray (u0 :: (.pointer (some ⟨g1, 0, none⟩)) :: u2 :: (.pointer (some ⟨g13, 0, none⟩)) :: x4 :: u5 :: u6 :: u7 :: u8 :: u9 :: u10 :: u11 :: u12 :: x13 :: x14 :: x15 :: x16 :: x17 :: x18 :: x19 :: x20 :: x21 :: x22 :: x23 :: x24 :: x25 :: x26 :: x27 :: x28 :: x29 :: 
      x30 :: x31 :: x32 :: x33 :: x34 :: u35 :: u36 :: u37 :: u38 :: u39 :: u40 :: u41 :: u42 :: u43 :: u44 :: u45 :: u46 :: u47 :: u48 :: u49 :: u50 :: u51 :: u52 :: u53 :: u54 :: u55 :: u56 :: u57 :: u58 :: u59 :: u60 :: u61 :: u62 :: u63 :: u64 :: u65 :: u66 :: 
      u67 :: u68 :: u69 :: u70 :: u71 :: u72 :: u73 :: u74 :: u75 :: u76 :: u77 :: []), []⟩ w') :
    (Code.loop (loopBody Try.f59 0)).wp Try.prog Q ⟨List.toArray (u0 :: (.pointer (some ⟨g1, 0, none⟩)) :: u2 :: (.pointer (some ⟨g13, 0, none⟩)) :: (.int .i64 0) :: u5 :: u6 :: u7 :: u8 :: u9 :: u10 :: u11 :: u12 :: u13 :: u14 :: u15 :: u16 :: u17 :: u18 :: u19 :: u20 :: u21 :: u22 :: u23 :: u24 :: u25 :: u26 :: u27 :: u28 :: 
      u29 :: u30 :: u31 :: u32 :: u33 :: u34 :: u35 :: u36 :: u37 :: u38 :: u39 :: u40 :: u41 :: u42 :: u43 :: u44 :: u45 :: u46 :: u47 :: u48 :: u49 :: u50 :: u51 :: u52 :: u53 :: u54 :: u55 :: u56 :: u57 :: u58 :: u59 :: u60 :: u61 :: u62 :: u63 :: u64 :: u65 :: 
      u66 :: u67 :: u68 :: u69 :: u70 :: u71 :: u72 :: u73 :: u74 :: u75 :: u76 :: u77 :: []), []⟩ w := by
  conv => arg 2; arg 1; whnf
  have hFH := hide hF
  have hn2 := hX.s2.1
  clear hF
  go_loopw [4] (fun kk wr => ∃ (k : Nat) (lf' : Nat → Nat), kk = .int .i64 (k : Int) ∧ k ≤ lv.length ∧ SubT wB wr L n g13 gl ga gv cv gi ci gj lf' br ac ∧ Hid (∀ x, x < L → (⟨(x : Int), (F x : Int)⟩ : Leaf) ∈ lv.take k → lf' x = F x)) (fun kk _ => lv.length - (intOf kk).toNat)
  case atStart => exact ⟨0, lf, rfl, Nat.zero_le _, hT, fun x _ h => by simp at h⟩
  case round =>
    obtain ⟨k, lf', rfl, hk, hT', hI⟩ := hrel
    have hXr := hX.at hT'.below
    have hc1 := hXr.b.cell
    by_cases hlt : k < lv.length
    · obtain ⟨b, off, e, rfl, hbk, he, hc⟩ := hXr.s2.at hlt
      obtain ⟨x, hx, hxe⟩ := hFH.out e (List.mem_of_getElem? he)
      subst hxe
      have d0 := hc 0 (by omega)
      have d1 := hc 1 (by omega)
      simp only [Nat.add_zero, encL] at d0 d1
      have hc13 := hT'.b.cell
      have hcl : wr.cell? ⟨gl, x, none⟩ = some (encN (lf' x)) := by rw [hT'.t.leaf.cell, rangeC_get _ hx]
      simp only [encN] at hcl
      have hfl := hT'.t.leaf.frozen x
      have hll := hT'.t.leaf.lt
      have hst := hide (hT'.drew.setLeaf x (F x))
      have heH := hide he
      clear hc he hT' hXr
      go_wp2_with fail
      refine Reg.region_plain [0, 1, 0, 4, 0, 28, 60, 124, 0, 256, 0, 1792, 3840, 7936, 16383, 32767] (by kernel_rfl) (by repeat (first | exact hN | refine Reg.NoQ.then ?_ | refine Reg.NoQ.inBlock ?_)) ?_
      go_wp2_with fail
      refine ⟨⟨k + 1, _, by go_num, by omega, hst.out, fun x' hx' hm => ?_⟩, by simp [intOf]; omega⟩
      unfold up1
      split
      · rename_i e; rw [e]
      · rename_i hne
        rcases take_new heH.out hm with hm | hm
        · exact hI.out x' hx' hm
        · injection hm with h1 h2
          exact absurd (by omega) hne
    · have hTH := hide hT'
      have e : k = lv.length := by omega
      have hI2 := hI.out
      rw [e, List.take_length] at hI2
      have hI3 := hide hI2
      clear e hT' hI2
      go_wp2_with fail
      exact hQ _ _ _ _ _ _ _ _ _ _ _ _ _ _ _ _ _ _ _ _ _ _ _ wr lf' hTH.out hI3.out

set_option maxHeartbeats 8000000 in
set_option maxRecDepth 100000 in
theorem tab_branches {wB w : World} {g1 g13 L n gl ga gv cv : Nat} {gi ci : Nat → Nat} {gj : Nat → Nat → Nat} {A1 A2 A3 : Option Addr} {c1 c2 c3 : Nat} {acc : List Int} {lv : List Leaf} {brs : List Branch} (hX : TabX wB g1 L n A1 A2 A3 c1 c2 c3 acc lv brs)
    {F : Nat → Nat → Nat → Nat} (hF : ∀ e ∈ brs, ∃ x i j, x < L ∧ i < n ∧ j < n ∧ e = ⟨(x : Int), (i : Int), (j : Int), (F x i j : Int)⟩)
    {lf : Nat → Nat} {br : Nat → Nat → Nat → Nat} {ac : Nat → Bool} (hT : SubT wB w L n g13 gl ga gv cv gi ci gj lf br ac)
    {u0 u2 u4 u6 u7 u8 u9 u10 u11 u12 u13 u14 u15 u16 u17 u18 u19 u20 u21 u22 u23 u24 u25 u26 u27 u28 u29 u30 u31 u32 u33 u34 u35 u36 u37 u38 u39 u40 u41 u42 u43 u44 u45 u46 u47 u48 u49 u50 u51 u52 u53 u54 u55 u56 u57 u58 u59 u60 u61 u62 u63 u64 u65 u66 u67 u68 u69 u70 u71 u72 u73 u74 u75 u76 u77 : Value}
    {Q : Exit → Act → World → Prop} (hN : Reg.NoQ Q)
    (hQ : ∀ (x5 x6 x35 x36 x37 x38 x39 x40 x41 x42 x43 x44 x45 x46 x47 x48 x49 x50 x51 x52 x53 x54 x55 x56 x57 x58 x59 x60 x61 : Value) (w' : World) (br' : Nat → Nat → Nat → Nat), SubT wB w' L n g13 gl ga gv cv gi ci gj lf br' ac → (∀ x i j, x < L → i < n → j < n → (⟨(x : Int), (i : Int), (j : Int), (F x i j : Int)⟩ : Branch) ∈ brs → br' x i j = F x i j) → Q (.exit 2) ⟨List.toArray (u0 :: (.pointer (some ⟨g1, 0, none⟩)) :: u2 :: (.pointer (some ⟨g13, 0, none⟩)) :: u4 :: x5 :: x6 :: u7 :: u8 :: u9 :: u10 :: u11 :: u12 :: u13 :: u14 :: u15 :: u16 :: u17 :: u18 :: u19 :: u20 :: u21 :: u22 :: u23 :: u24 :: u25 :: u26 :: u27 :: u28 :: u29 :: 
      u30 :: u31 :: u32 :: u33 :: u34 :: x35 :: x36 :: x37 :: x38 :: x39 :: x40 :: x41 :: x42 :: x43 :: x44 :: x45 :: x46 :: x47 :: x48 :: x49 :: x50 :: x51 :: x52 :: x53 :: x54 :: x55 :: x56 :: x57 :: x58 :: x59 :: x60 :: x61 :: u62 :: u63 :: u64 :: u65 :: u66 :: 
      u67 :: u68 :: u69 :: u70 :: u71 :: u72 :: u73 :: u74 :: u75 :: u76 :: u77 :: []), []⟩ w') :
    (Code.loop (loopBody Try.f59 1)).wp Try.prog Q ⟨List.toArray (u0 :: (.pointer (some ⟨g1, 0, none⟩)) :: u2 :: (.pointer (some ⟨g13, 0, none⟩)) :: u4 :: (.int .i64 0) :: u6 :: u7 :: u8 :: u9 :: u10 :: u11 :: u12 :: u13 :: u14 :: u15 :: u16 :: u17 :: u18 :: u19 :: u20 :: u21 :: u22 :: u23 :: u24 :: u25 :: u26 :: u27 :: u28 :: 
      u29 :: u30 :: u31 :: u32 :: u33 :: u34 :: u35 :: u36 :: u37 :: u38 :: u39 :: u40 :: u41 :: u42 :: u43 :: u44 :: u45 :: u46 :: u47 :: u48 :: u49 :: u50 :: u51 :: u52 :: u53 :: u54 :: u55 :: u56 :: u57 :: u58 :: u59 :: u60 :: u61 :: u62 :: u63 :: u64 :: u65 :: 
      u66 :: u67 :: u68 :: u69 :: u70 :: u71 :: u72 :: u73 :: u74 :: u75 :: u76 :: u77 :: []), []⟩ w := by
  conv => arg 2; arg 1; whnf
  have hFH := hide hF
  have hn3 := hX.s3.1
  clear hF
  go_loopw [5] (fun kk wr => ∃ (k : Nat) (br' : Nat → Nat → Nat → Nat), kk = .int .i64 (k : Int) ∧ k ≤ brs.length ∧ SubT wB wr L n g13 gl ga gv cv gi ci gj lf br' ac ∧
    Hid (∀ x i j, x < L → i < n → j < n → (⟨(x : Int), (i : Int), (j : Int), (F x i j : Int)⟩ : Branch) ∈ brs.take k → br' x i j = F x i j)) (fun kk _ => brs.length - (intOf kk).toNat)
  case atStart => exact ⟨0, br, rfl, Nat.zero_le _, hT, fun x i j _ _ _ h => by simp at h⟩
  case round =>
    obtain ⟨k, br', rfl, hk, hT', hI⟩ := hrel
    have hXr := hX.at hT'.below
    have hc1 := hXr.b.cell
    by_cases hlt : k < brs.length
    · obtain ⟨b, off, e, rfl, hbk, he, hc⟩ := hXr.s3.at hlt
      obtain ⟨x, i, j, hx, hi, hj, hxe⟩ := hFH.out e (List.mem_of_getElem? he)
      subst hxe
      have d0 := hc 0 (by omega)
      have d1 := hc 1 (by omega)
      have d2 := hc 2 (by omega)
      have d3 := hc 3 (by omega)
      simp only [Nat.add_zero, encBr] at d0 d1 d2 d3
      obtain ⟨w4, hw4, hb4, hB4, hk4⟩ := box_blk wr #[.int .i64 (x : Int), .int .i64 (i : Int), .int .i64 (j : Int), .int .i64 (F x i j : Int)] 59
      have hT4 := hT'.call hb4
      have hc6 := hB4.cell
      have hc13 := hT4.b.cell
      have htc := hT4.t.topc x hx
      have hmc := (hT4.t.mid x hx).2 i hi
      have hcr : w4.cell? ⟨gj x i, j, none⟩ = some (encN (br' x i j)) := by rw [(hT4.t.row x hx i hi).cell, rangeC_get _ hj]
      simp only [encN] at hcr
      have hfr := (hT4.t.row x hx i hi).frozen j
      have hlr := (hT4.t.row x hx i hi).lt
      have hst := hide (hT4.drew.setBr hx hi j (F x i j))
      have heH := hide he
      clear hc he hT' hXr hT4
      go_wp2_with fail
      refine Reg.region_plain [0, 1, 0, 4, 15, 31, 0, 64, 255, 511, 0, 1024, 0, 4096, 16383, 32767] (by kernel_rfl) (by repeat (first | exact hN | refine Reg.NoQ.then ?_ | refine Reg.NoQ.inBlock ?_)) ?_
      go_wp2_with fail
      refine ⟨⟨k + 1, _, by go_num, by omega, hst.out, fun x' i' j' hx' hi' hj' hm => ?_⟩, by simp [intOf]; omega⟩
      unfold up3
      split
      · rename_i e; obtain ⟨rfl, rfl, rfl⟩ := e; rfl
      · rename_i hne
        rcases take_new heH.out hm with hm | hm
        · exact hI.out x' i' j' hx' hi' hj' hm
        · injection hm with h1 h2 h3 h4
          exact absurd ⟨by omega, by omega, by omega⟩ hne
    · have hTH := hide hT'
      have e : k = brs.length := by omega
      have hI2 := hI.out
      rw [e, List.take_length] at hI2
      have hI3 := hide hI2
      clear e hT' hI2
      go_wp2_with fail
      exact hQ _ _ _ _ _ _ _ _ _ _ _ _ _ _ _ _ _ _ _ _ _ _ _ _ _ _ _ _ _ wr br' hTH.out hI3.out

set_option maxHeartbeats 8000000 in
set_option maxRecDepth 100000 in
theorem tab_acc {wB w : World} {g1 g13 L n gl ga gv cv : Nat} {gi ci : Nat → Nat} {gj : Nat → Nat → Nat} {A1 A2 A3 : Option Addr} {c1 c2 c3 : Nat} {al : List Nat} {lv : List Leaf} {brs : List Branch} (hX : TabX wB g1 L n A1 A2 A3 c1 c2 c3 (al.map fun (i : Nat) => (i : Int)) lv brs)
    (hA : ∀ q ∈ al, q < n)
    {lf : Nat → Nat} {br : Nat → Nat → Nat → Nat} (hT : SubT wB w L n g13 gl ga gv cv gi ci gj lf br (fun _ => false))
    {u0 u2 u4 u5 u6 u8 u9 u10 u11 u12 u13 u14 u15 u16 u17 u18 u19 u20 u21 u22 u23 u24 u25 u26 u27 u28 u29 u30 u31 u32 u33 u34 u35 u36 u37 u38 u39 u40 u41 u42 u43 u44 u45 u46 u47 u48 u49 u50 u51 u52 u53 u54 u55 u56 u57 u58 u59 u60 u61 u62 u63 u64 u65 u66 u67 u68 u69 u70 u71 u72 u73 u74 u75 u76 u77 : Value}
    {Q : Exit → Act → World → Prop} (hN : Reg.NoQ Q)
    (hQ : ∀ (x7 x62 x63 x64 x65 x66 x67 x68 x69 x70 x71 x72 x73 x74 x75 x76 : Value) (w' : World) (ac' : Nat → Bool), SubT wB w' L n g13 gl ga gv cv gi ci gj lf br ac' → (∀ q, q < n → (ac' q = true ↔ q ∈ al)) → Q (.exit 4) ⟨List.toArray (u0 :: (.pointer (some ⟨g1, 0, none⟩)) :: u2 :: (.pointer (some ⟨g13, 0, none⟩)) :: u4 :: u5 :: u6 :: x7 :: u8 :: u9 :: u10 :: u11 :: u12 :: u13 :: u14 :: u15 :: u16 :: u17 :: u18 :: u19 :: u20 :: u21 :: u22 :: u23 :: u24 :: u25 :: u26 :: u27 :: u28 :: u29 :: 
      u30 :: u31 :: u32 :: u33 :: u34 :: u35 :: u36 :: u37 :: u38 :: u39 :: u40 :: u41 :: u42 :: u43 :: u44 :: u45 :: u46 :: u47 :: u48 :: u49 :: u50 :: u51 :: u52 :: u53 :: u54 :: u55 :: u56 :: u57 :: u58 :: u59 :: u60 :: u61 :: x62 :: x63 :: x64 :: x65 :: x66 :: 
      x67 :: x68 :: x69 :: x70 :: x71 :: x72 :: x73 :: x74 :: x75 :: x76 :: u77 :: []), []⟩ w') :
    (Code.loop (loopBody Try.f59 2)).wp Try.prog Q ⟨List.toArray (u0 :: (.pointer (some ⟨g1, 0, none⟩)) :: u2 :: (.pointer (some ⟨g13, 0, none⟩)) :: u4 :: u5 :: u6 :: (.int .i64 0) :: u8 :: u9 :: u10 :: u11 :: u12 :: u13 :: u14 :: u15 :: u16 :: u17 :: u18 :: u19 :: u20 :: u21 :: u22 :: u23 :: u24 :: u25 :: u26 :: u27 :: u28 :: 
      u29 :: u30 :: u31 :: u32 :: u33 :: u34 :: u35 :: u36 :: u37 :: u38 :: u39 :: u40 :: u41 :: u42 :: u43 :: u44 :: u45 :: u46 :: u47 :: u48 :: u49 :: u50 :: u51 :: u52 :: u53 :: u54 :: u55 :: u56 :: u57 :: u58 :: u59 :: u60 :: u61 :: u62 :: u63 :: u64 :: u65 :: 
      u66 :: u67 :: u68 :: u69 :: u70 :: u71 :: u72 :: u73 :: u74 :: u75 :: u76 :: u77 :: []), []⟩ w := by
  conv => arg 2; arg 1; whnf
  have hAH := hide hA
  have hn1 := hX.s1.1
  have hml : (al.map fun (i : Nat) => (i : Int)).length = al.length := by simp
  have hmlH := hide hml
  rw [hml] at hn1
  clear hA hml
  go_loopw [7] (fun kk wr => ∃ (k : Nat) (ac' : Nat → Bool), kk = .int .i64 (k : Int) ∧ k ≤ al.length ∧ SubT wB wr L n g13 gl ga gv cv gi ci gj lf br ac' ∧ Hid (∀ q, q < n → (ac' q = true ↔ q ∈ al.take k))) (fun kk _ => al.length - (intOf kk).toNat)
  case atStart => exact ⟨0, _, rfl, Nat.zero_le _, hT, fun q _ => by simp⟩
  case round =>
    obtain ⟨k, ac', rfl, hk, hT', hI⟩ := hrel
    have hXr := hX.at hT'.below
    have hc1 := hXr.b.cell
    rw [hmlH.out] at hc1
    by_cases hlt : k < al.length
    · obtain ⟨b, off, e, rfl, hbk, he, hc⟩ := hXr.s1.at (k := k) (by rw [hmlH.out]; exact hlt)
      obtain ⟨q, hq⟩ := get_lt hlt
      have hqn := hAH.out q (List.mem_of_getElem? hq)
      have hqe := map_get (f := fun (i : Nat) => (i : Int)) hq
      rw [he] at hqe
      injection hqe with hqe
      subst hqe
      have d0 := hc 0 (by omega)
      simp only [Nat.add_zero, Nat.mul_one, encI] at d0
      have hc13 := hT'.b.cell
      have hca : wr.cell? ⟨ga, q, none⟩ = some (.bool (ac' q)) := by rw [hT'.t.acc.cell, rangeC_get _ hqn]
      have hfa := hT'.t.acc.frozen q
      have hla := hT'.t.acc.lt
      have hst := hide (hT'.drew.setAcc q true)
      have hqH := hide hq
      clear hc he hT' hXr hq
      go_wp2_with fail
      refine Reg.region_plain [0, 1, 0, 4, 0, 28, 60, 127, 255] (by kernel_rfl) (by repeat (first | exact hN | refine Reg.NoQ.then ?_ | refine Reg.NoQ.inBlock ?_)) ?_
      go_wp2_with fail
      refine ⟨⟨k + 1, _, by go_num, by omega, hst.out, fun q' hq' => ?_⟩, by simp [intOf]; omega⟩
      have ht := take_snoc hqH.out
      unfold up1
      rw [ht, List.mem_append, List.mem_singleton]
      split
      · rename_i e; simp [e]
      · rename_i hne
        rw [hI.out q' hq']
        simp [hne]
    · have hTH := hide hT'
      have e : k = al.length := by omega
      have hI2 := hI.out
      rw [e, List.take_length] at hI2
      have hI3 := hide hI2
      clear e hT' hI2
      go_wp2_with fail
      exact hQ _ _ _ _ _ _ _ _ _ _ _ _ _ _ _ _ wr ac' hTH.out hI3.out
end Go.Proofs.Ytnimlcbgeiajiaa

namespace Go.Proofs.Ytnimlcbgeiajiaa
open Go.RowKit

set_option maxHeartbeats 8000000 in
set_option maxRecDepth 100000 in
theorem table_any {w : World} {L : Nat} {v : Value} {ac : List Bool} {lf : List Nat} {t : List (List (List Nat))} (h : IsTA w w.heap.size v (plainA L ac lf t)) (hok : MOK L ac lf t) (hL : L ≤ 8) (hL1 : 1 ≤ L) (hn : ac.length ≤ 20000) :
    Calls Try.prog 59 #[v] w (Ret fun r w' => Below w.heap.size w w' ∧ ∃ gl ga gv cv gi ci gj, r = .agg #[.int .i64 (L : Int), .slice (some ⟨gl, 0, none⟩) L L, .slice (some ⟨gv, 0, none⟩) L cv, .slice (some ⟨ga, 0, none⟩) ac.length ac.length] ∧
      TblW w' w.heap.size L ac.length gl ga gv cv gi ci gj (mleaf lf) (mbr t) (macc ac)) := by
  obtain ⟨A1, c1, A2, c2, A3, c3, rfl, h1, h2, h3⟩ := h
  have hpos := hok.pos hL1
  have h1' : Sl w w.heap.size 1 encI A1 ((accIdx ac).map fun (i : Nat) => (i : Int)) := h1
  have h2' : Sl w w.heap.size 2 encL A2 (plLv lf) := h2
  have h3' : Sl w w.heap.size 4 encBr A3 (plBr L ac.length t) := h3
  show Calls Try.prog 59 #[.agg #[.int .i64 (L : Int), .int .i64 (ac.length : Int), .slice A1 ((accIdx ac).map fun (i : Nat) => (i : Int)).length c1, .slice A2 (plLv lf).length c2, .slice A3 (plBr L ac.length t).length c3]] w _
  obtain ⟨w1, hw1, hb1, hB1, hk1⟩ := box_blk w #[.int .i64 (L : Int), .int .i64 (ac.length : Int), .slice A1 (accIdx ac).length c1, .slice A2 (plLv lf).length c2, .slice A3 (plBr L ac.length t).length c3] 26
  obtain ⟨w2, hw2, hb2, hB2, hk2⟩ := box_blk w1 #[.int .i64 0, .slice none 0 0, .slice none 0 0, .slice none 0 0] 84
  have hsz1 := hb1.size
  have hsz2 := hb2.size
  have hb02 := hb1.trans (hb2.mono hsz1)
  have hlt2 := hB2.lt
  have hX := hide (show TabX w2 w.heap.size L ac.length A1 A2 A3 c1 c2 c3 ((accIdx ac).map fun (i : Nat) => (i : Int)) (plLv lf) (plBr L ac.length t) from
    ⟨by rw [List.length_map]; exact hB1.below hb2, (h1'.below hb02).mono (by omega), (h2'.below hb02).mono (by omega), (h3'.below hb02).mono (by omega)⟩)
  have hFl := hide (fun (e : Leaf) (he : e ∈ plLv lf) => show ∃ x, x < L ∧ e = ⟨(x : Int), (mleaf lf x : Int)⟩ from by
    obtain ⟨x, hx, rfl⟩ := mem_plLv.1 he
    exact ⟨x, by rw [← hok.lfl]; exact hx, rfl⟩)
  have hFb := hide (fun (e : Branch) (he : e ∈ plBr L ac.length t) => mem_plBr.1 he)
  have hAa := hide (fun (q : Nat) (hq : q ∈ accIdx ac) => (mem_accIdx.1 hq).1)
  have hlfl := hide hok.lfl
  have hc1 := (hB1.below hb2).cell
  clear h1 h2 h3 h1' h2' h3' hok
  go_enter Try.func59, Try.ntmps59
  go_wp2_with (go_at_call 84; refine Calls.ret (blank_any hL hL1 hn hpos) ?_; rintro v6 w6 ⟨hb6, gl, ga, gv, cv, gi, ci, gj, rfl, hT6⟩
               obtain ⟨w7, hw7, hb7, hB7, hk7⟩ := box_blk w6 #[.int .i64 (L : Int), .slice (some ⟨gl, 0, none⟩) L L, .slice (some ⟨gv, 0, none⟩) L cv, .slice (some ⟨ga, 0, none⟩) ac.length ac.length] 84
               have hT7 := hide (show SubT w2 w7 L ac.length w6.heap.size gl ga gv cv gi ci gj (fun _ => 0) (fun _ _ _ => 0) (fun _ => false) from ⟨hb6.trans (hb7.mono hb6.size), hT6.below hb7, hB7, hb6.size⟩)
               clear hb6 hT6 hc1)
  refine tab_leaves hX.out hFl.out hT7.out ?_ ?_
  · repeat (first | exact Reg.NoQ.body (fun _ _ h => h) (fun _ h => h) | refine Reg.NoQ.then ?_ | refine Reg.NoQ.inBlock ?_)
  · iterate 23 (intro _)
    intro w8 lf8 hT8 hl8
    have hTH8 := hide hT8
    have hlH8 := hide hl8
    clear hT8 hl8
    go_wp2_with fail
    refine tab_branches hX.out hFb.out hTH8.out ?_ ?_
    · repeat (first | exact Reg.NoQ.body (fun _ _ h => h) (fun _ h => h) | refine Reg.NoQ.then ?_ | refine Reg.NoQ.inBlock ?_)
    · iterate 29 (intro _)
      intro w9 br9 hT9 hl9
      have hTH9 := hide hT9
      have hlH9 := hide hl9
      clear hT9 hl9
      go_wp2_with fail
      refine tab_acc hX.out hAa.out hTH9.out ?_ ?_
      · repeat (first | exact Reg.NoQ.body (fun _ _ h => h) (fun _ h => h) | refine Reg.NoQ.then ?_ | refine Reg.NoQ.inBlock ?_)
      · iterate 16 (intro _)
        intro wa acF hTa hla
        have hTH := hide hTa
        have hlaH := hide hla
        have hca := hTa.b.cell
        have hBa := hB2.below hTa.below
        have hc2a := hBa.cell
        have hf2a := hBa.frozen
        have hl2a := hBa.lt
        clear hTa hla
        go_wp2_with fail
        obtain ⟨wF, hwF, hgF, hkF⟩ := set4t_facts hBa (.int .i64 (L : Int)) (.slice (some ⟨gl, 0, none⟩) L L) (.slice (some ⟨gv, 0, none⟩) L cv) (.slice (some ⟨ga, 0, none⟩) ac.length ac.length)
        change bodyPost _ _ _ _ _ (set4t wa w1.heap.size (.int .i64 (L : Int)) (.slice (some ⟨gl, 0, none⟩) L L) (.slice (some ⟨gv, 0, none⟩) L cv) (.slice (some ⟨ga, 0, none⟩) ac.length ac.length))
        rw [hwF]
        have hcF := hgF.cell
        have hsa := hTH.out.below.size
        refine bodyPost_ret (v := .agg #[.int .i64 (L : Int), .slice (some ⟨gl, 0, none⟩) L L, .slice (some ⟨gv, 0, none⟩) L cv, .slice (some ⟨ga, 0, none⟩) ac.length ac.length]) (by simp [results, Try.results59, go_sem, hcF]) rfl
          ⟨(hb02.trans (hTH.out.below.mono (by omega))).trans (hkF.below (by omega) fun b hb e => by omega), gl, ga, gv, cv, gi, ci, gj, rfl, ?_⟩
        refine ((hTH.out.t.keep hkF fun k e => by omega).weak (by omega)).congr (fun x hx => hlH8.out x hx (mem_plLv.2 ⟨x, by rw [hlfl.out]; exact hx, rfl⟩)) (fun x i j hx hi hj => hlH9.out x i j hx hi hj (mem_plBr.2 ⟨x, i, j, hx, hi, hj, rfl⟩)) (fun q hq => ?_)
        rw [Bool.eq_iff_iff, hlaH.out q hq, mem_accIdx]
        exact ⟨fun h => h.2, fun h => ⟨hq, h⟩⟩
end Go.Proofs.Ytnimlcbgeiajiaa

namespace Go.Proofs.Ytnimlcbgeiajiaa
open Go.RowKit

/-- The error and the canonical automaton of a language. -/
def RelG (a : TA) (Λ : Tr → Bool) (e : Int) (b : TA) : Prop :=
  (a.valid = false ∧ e = 1 ∧ b = zTA) ∨ (a.valid = true ∧ a.Large ∧ e = 4 ∧ b = zTA) ∨
  (a.valid = true ∧ ¬ a.Large ∧ e = 0 ∧ ∃ ac lf t, MOK a.letters.toNat ac lf t ∧ ac.length ≤ 64 ∧ Canon a.letters.toNat ac.length (mleaf lf) (mbr t) (macc ac) Λ ∧ b = plainA a.letters.toNat ac lf t)
theorem RelG.unique {a b b' : TA} {Λ : Tr → Bool} {e e' : Int} (h : RelG a Λ e b) (h' : RelG a Λ e' b') : e = e' ∧ b = b' := by
  rcases h with ⟨h1, rfl, rfl⟩ | ⟨h1, h2, rfl, rfl⟩ | ⟨h1, h2, rfl, ac, lf, t, h3, h4, h5, rfl⟩ <;>
  rcases h' with ⟨g1, rfl, rfl⟩ | ⟨g1, g2, rfl, rfl⟩ | ⟨g1, g2, rfl, ac', lf', t', g3, g4, g5, rfl⟩ <;>
  first
  | exact ⟨rfl, rfl⟩
  | exact absurd (h1.symm.trans g1) (by decide)
  | exact (h2 g2).elim
  | exact (g2 h2).elim
  | exact ⟨rfl, (plain_same h3 g3 h5 g5 (fun _ _ => rfl)).symm⟩
theorem Canon.congr {L n : Nat} {leaf : Nat → Nat} {br : Nat → Nat → Nat → Nat} {acc : Nat → Bool} {Λ Λ' : Tr → Bool} (h : Canon L n leaf br acc Λ) (hΛ : ∀ t : Tr, t.ok L → Λ t = Λ' t) : Canon L n leaf br acc Λ' :=
  ⟨h.isM, fun tr htr => (h.lang tr htr).trans (hΛ tr htr), fun tr u htr hu hq => h.sep tr u htr hu fun r => EqT.congr (fun tr htr => (hΛ tr htr).symm) r tr u htr hu (hq r), h.ord⟩
theorem EqT.not {L : Nat} {Λ : Tr → Bool} (r : Nat) : ∀ t u : Tr, EqT L (fun t => !Λ t) r t u → EqT L Λ r t u := by
  induction r with
  | zero =>
    intro t u h
    have h' : (!Λ t) = !Λ u := h
    show Λ t = Λ u
    cases h1 : Λ t <;> cases h2 : Λ u <;> simp_all
  | succ r ih => exact fun t u h => ⟨ih t u h.1, fun x hx c hc => ⟨ih _ _ (h.2 x hx c hc).1, ih _ _ (h.2 x hx c hc).2⟩⟩
theorem Canon.compl {L n : Nat} {leaf : Nat → Nat} {br : Nat → Nat → Nat → Nat} {acc acc' : Nat → Bool} {Λ : Tr → Bool} (h : Canon L n leaf br acc Λ) (ha : ∀ q, q < n → acc' q = !acc q) : Canon L n leaf br acc' (fun t => !Λ t) :=
  ⟨h.isM, fun tr htr => by rw [ha _ (h.isM.run_lt tr htr), h.lang tr htr], fun tr u htr hu hq => h.sep tr u htr hu fun r => EqT.not r tr u (hq r), h.ord⟩
theorem macc_not {ac ac' : List Bool} (hl : ac'.length = ac.length) (h : ∀ q, q < ac.length → macc ac' q = !macc ac q) : ac' = ac.map (fun b => !b) := by
  apply List.ext_getElem?
  intro q
  by_cases hq : q < ac.length
  · obtain ⟨b, hb⟩ := get_lt hq
    obtain ⟨b', hb'⟩ := get_lt (l := ac') (i := q) (by omega)
    have := h q hq
    have e1 : macc ac q = b := getD_some hb
    have e2 : macc ac' q = b' := getD_some hb'
    rw [e1, e2] at this
    rw [hb', List.getElem?_map, hb, this]
    rfl
  · rw [List.getElem?_eq_none (by omega), List.getElem?_eq_none (by simp; omega)]
theorem mok_other {L : Nat} {ac ac' : List Bool} {lf : List Nat} {t : List (List (List Nat))} (h : MOK L ac lf t) (hl : ac'.length = ac.length) : MOK L ac' lf t :=
  ⟨h.lfl, by rw [hl]; exact h.tl, fun i r hr => ⟨by rw [hl]; exact (h.rl i r hr).1, (h.rl i r hr).2⟩, by rw [hl]; exact h.isM⟩

/-- What was built of the call's own reads as an automaton. -/
theorem OwnTA.own {w : World} {base L : Nat} {va : Value} {ac : List Bool} {lf : List Nat} {t : List (List (List Nat))} (h : OwnTA w base va L ac.length (accIdx ac) (plLv lf) (plBr L ac.length t)) (hok : MOK L ac lf t) (hL : L ≤ 8) : TAown w base va (plainA L ac lf t) := by
  obtain ⟨A1, c1, A2, c2, A3, c3, hv, s1, s2, s3⟩ := own_ta h
  obtain ⟨v1, v2, v3, hv', -, o2, -⟩ := h
  rw [hv] at hv'
  injection hv' with hv'
  simp only [Array.mk.injEq, List.cons.injEq, and_true] at hv'
  obtain ⟨-, -, -, e2, -⟩ := hv'
  refine ⟨A1, c1, A2, c2, A3, c3, _, hv, s1, s2, s3, by rw [← e2] at o2; exact o2, ?_⟩
  show (plLv lf).length ≤ 8
  simp only [plLv, List.length_map, List.length_range, hok.lfl]
  exact hL
theorem TAown.weak {w : World} {base base' : Nat} {v : Value} {b : TA} (h : TAown w base v b) (hb : base' ≤ base) : TAown w base' v b := by
  obtain ⟨A1, c1, A2, c2, A3, c3, xs, h1, h2, h3, h4, h5, h6⟩ := h
  exact ⟨A1, c1, A2, c2, A3, c3, xs, h1, h2, h3, h4, own_weak h5 hb, h6⟩
theorem TAown.zero (w : World) (base : Nat) : TAown w base zeroTA zTA := ⟨none, 0, none, 0, none, 0, [], rfl, Sl.nil rfl, Sl.nil rfl, Sl.nil rfl, own_nil, by simp [zTA]⟩
/-- A change of one block of structs. -/
theorem TAown.keep {w w' : World} {X : Nat → Prop} {base : Nat} {v : Value} {b : TA} {L : Nat} {ac : List Bool} {lf : List Nat} {t : List (List (List Nat))} (h : OwnTA w base v L ac.length (accIdx ac) (plLv lf) (plBr L ac.length t)) (hk : Kept w w' X) (hX : ∀ g e cs, X g → e ≠ 26 → ¬ Blk w g e cs) (hb : b = plainA L ac lf t) (hok : MOK L ac lf t) (hL : L ≤ 8) : TAown w' base v b := by
  subst hb
  obtain ⟨va, vl, vb, rfl, h1, h2, h3⟩ := h
  exact OwnTA.own ⟨va, vl, vb, rfl, own_ty hk h1 (fun g cs hx => hX g 3 cs hx (by decide)), own_ty hk h2 (fun g cs hx => hX g 36 cs hx (by decide)), own_ty hk h3 (fun g cs hx => hX g 59 cs hx (by decide))⟩ hok hL
/-- A pair of an automaton of the call's own and an error. -/
def ResG (w' : World) (base : Nat) (a : TA) (Λ : Tr → Bool) (v : Value) : Prop := ∃ e b vm, v = .tuple #[vm, .int .i64 e] ∧ RelG a Λ e b ∧ TAown w' base vm b
end Go.Proofs.Ytnimlcbgeiajiaa
