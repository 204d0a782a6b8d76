/-
  The reference's subsets: the loops of a round.
  The reference's subsets: the rounds.
  The reference's subsets: the leaves; the table that is filled.
  The reference's subsets: the loops that fill the table.
  The reference's subsets: the outer loops that fill the table, and the marks.
  The reference's subsets: the walk joined.
-/
import Derived.Test.YtnimlcbgeiajiaaVH
import Derived.Test.YtnimlcbgeiajiaaVE
import Derived.Test.YtnimlcbgeiajiaaVG

namespace Go.Proofs.Ytnimlcbgeiajiaa
open Go.RowKit

/-- What the call was handed. -/
structure SubX (w2 : World) (g2 L S : Nat) (A1 A2 A3 : Option Addr) (c1 c2 c3 : Nat) (acc : List Int) (lv : List Leaf) (brs : List Branch) : Prop where
  ta : IsTA w2 w2.heap.size (.agg #[.int .i64 (L : Int), .int .i64 (S : Int), .slice A1 acc.length c1, .slice A2 lv.length c2, .slice A3 brs.length c3]) ⟨(L : Int), (S : Int), acc, lv, brs⟩
  valid : TA.fit5 ⟨(L : Int), (S : Int), acc, lv, brs⟩ = true
  blk : Blk w2 g2 26 #[.int .i64 (L : Int), .int .i64 (S : Int), .slice A1 acc.length c1, .slice A2 lv.length c2, .slice A3 brs.length c3]
/-- The sets that have been met. -/
structure SubS (w2 wr : World) (S gs : Nat) (va : Value) (us : List Value) (l : List (List Bool)) : Prop where
  below : Below w2.heap.size w2 wr
  sets : SetsS wr w2.heap.size wr.heap.size S gs va us l
  hgs : w2.heap.size ≤ gs
section
variable {w2 wr w4 w5 : World} {g2 L S gs : Nat} {va va' : Value} {us us' : List Value} {l l' : List (List Bool)} {A1 A2 A3 : Option Addr} {c1 c2 c3 : Nat} {acc : List Int} {lv : List Leaf} {brs : List Branch}
theorem SubS.call (h : SubS w2 wr S gs va us l) (hb : Below wr.heap.size wr w4) : SubS w2 w4 S gs va us l :=
  ⟨h.below.trans (hb.mono h.below.size), (h.sets.keep0 (Kept.of_below hb _)).mono hb.size, h.hgs⟩
theorem SubS.drew (h : SubS w2 wr S gs va us l) : SubS w2 wr.drew S gs va us l := h.call (drew_below wr)
theorem SubS.num (h : SubS w2 wr S gs va us l) (hk : Kept wr w5 (fun k => k = gs ∨ va.ownBlock = some k)) (hs : SetsS w5 w2.heap.size wr.heap.size S gs va' us' l') : SubS w2 w5 S gs va' us' l' :=
  ⟨h.below.trans (hk.below h.below.size fun b hb hx => by
    rcases hx with hx | hx
    · have := h.hgs; omega
    · have := own_base h.sets.own hx; omega), hs.mono hk.size, h.hgs⟩
theorem SubX.at (h : SubX w2 g2 L S A1 A2 A3 c1 c2 c3 acc lv brs) (hb : Below w2.heap.size w2 wr) : SubX wr g2 L S A1 A2 A3 c1 c2 c3 acc lv brs :=
  ⟨h.ta.keep (fun _ hp => hb.cell hp) hb.size, h.valid, h.blk.below hb⟩
theorem SubX.leaf (h : SubX w2 g2 L S A1 A2 A3 c1 c2 c3 acc lv brs) (x : Nat) :
    Calls Try.prog 81 #[.agg #[.int .i64 (L : Int), .int .i64 (S : Int), .slice A1 acc.length c1, .slice A2 lv.length c2, .slice A3 brs.length c3], .int .i64 (x : Int)] w2 (Ret fun r w' => Below w2.heap.size w2 w' ∧ Marks w' w'.heap.size S r (leafR S lv x)) :=
  refLeaf_any _ _ w2 x h.ta h.valid
theorem SubX.branch (h : SubX w2 g2 L S A1 A2 A3 c1 c2 c3 acc lv brs) (x : Nat) {Bs Bt : Nat} {u1 u2 : Value} {s t : List Bool} (hs : Marks w2 Bs S u1 s) (ht : Marks w2 Bt S u2 t) :
    Calls Try.prog 82 #[.agg #[.int .i64 (L : Int), .int .i64 (S : Int), .slice A1 acc.length c1, .slice A2 lv.length c2, .slice A3 brs.length c3], .int .i64 (x : Int), u1, u2] w2 (Ret fun r w' => Below w2.heap.size w2 w' ∧ Marks w' w'.heap.size S r (brR S brs x s t)) :=
  refBranch_any _ u1 u2 _ s t w2 x Bs Bt h.ta h.valid hs ht
theorem SubX.S64 (h : SubX w2 g2 L S A1 A2 A3 c1 c2 c3 acc lv brs) : 1 ≤ L ∧ L ≤ 8 ∧ S ≤ 65 := by
  have := h.valid
  simp only [TA.fit5, TA.head5, Bool.and_eq_true, decide_eq_true_eq] at this
  omega
theorem SubS.number (h : SubS w2 wr S gs va us l) {u : Value} {m : List Bool} (hu : Marks wr wr.heap.size S u m) (hS : S ≤ 65) (hl : l.length ≤ 33000) :
    Calls Try.prog 106 #[.pointer (some ⟨gs, 0, none⟩), u] wr (Ret fun v w' => v = .int .i64 (numL (meetL l m) m : Int) ∧ Kept wr w' (fun k => k = gs ∨ va.ownBlock = some k) ∧ ∃ va' us', SubS w2 w' S gs va' us' (meetL l m)) :=
  (setsNumber_any h.sets hu (by omega) (by omega) h.below.size).mono fun e w' hr => by
    cases e with
    | returned v =>
      obtain ⟨h1, h2, va', us', h3, -⟩ := hr
      exact ⟨h1, h2, va', us', h.num h2 h3⟩
    | panicked c => exact hr.elim
    | outgrown => exact hr.elim
theorem SubS.get (h : SubS w2 wr S gs va us l) {i : Nat} (hi : i < l.length) : ∃ g c gi s, va = .slice (some ⟨g, 0, none⟩) l.length c ∧ l[i]? = some s ∧ wr.cell? ⟨g, i, none⟩ = some (.slice (some ⟨gi, 0, none⟩) S S) ∧ Marks wr wr.heap.size S (.slice (some ⟨gi, 0, none⟩) S S) s := by
  obtain ⟨s, hs⟩ := get_lt hi
  obtain ⟨u, hu⟩ := get_lt (l := us) (i := i) (by rw [h.sets.len]; exact hi)
  obtain ⟨g, c, rfl, hc⟩ := own_get h.sets.own hu
  have hm := h.sets.row i u s hu hs
  obtain ⟨gi, h1, rfl, h2, h3⟩ := hm
  exact ⟨g, c, gi, s, rfl, hs, hc, gi, h1, rfl, h2, h3⟩
end

set_option maxHeartbeats 8000000 in
set_option maxRecDepth 100000 in
theorem sub_k {w2 w : World} {g2 L S gs x i d : Nat} {va : Value} {us : List Value} {A1 A2 A3 : Option Addr} {c1 c2 c3 : Nat} {acc : List Int} {lv : List Leaf} {brs : List Branch} (hX : SubX w2 g2 L S A1 A2 A3 c1 c2 c3 acc lv brs) (hx : x < L)
    {l0 l : List (List Bool)} (hi : i < l0.length) (hn : l0.length ≤ 33000) (hS : SubS w2 w S gs va us l) (hM : ExpM L (leafR S lv) (brR S brs) l0 l d (fun x' i' _ => x' < x ∨ x' = x ∧ i' < i)) (hMid : Mid L (brR S brs) l0 l)
    (hcap : ∀ l, Mid L (brR S brs) l0 l → (∀ s ∈ l, Reach L (leafR S lv) (brR S brs) s) → l.length ≤ 33000)
    {u0 u1 u3 u4 u5 u7 u13 u14 u15 u16 u17 u18 u19 u20 u21 u22 u23 u24 u25 u26 u27 u28 u29 u30 u31 u32 u33 u34 u35 u36 u37 u38 u39 u40 u41 u42 u43 u44 u45 u46 u47 u48 u49 u50 u51 u52 u53 u54 u55 u56 u57 u58 u59 u60 u61 u62 u63 u64 u65 u66 u67 u68 u69 u70 u71 u72 u73 u74 u75 u76 u77 u78 u79 u80 u81 u82 u83 u84 u85 u86 u87 u88 u89 u90 u91 u92 u93 u94 u95 u96 u97 u98 u99 u100 u101 u102 u103 u104 u105 u106 u107 u108 u109 u110 u111 u112 u113 u114 u115 u116 u117 u118 u119 u120 u121 u122 u123 u124 u125 u126 u127 u128 u129 u130 u131 u132 u133 u134 u135 u136 u137 u138 u139 u140 u141 u142 u143 u144 u145 u146 u147 u148 u149 u150 u151 u152 u153 u154 u155 u156 u157 u158 u159 u160 : Value}
    {Q : Exit → Act → World → Prop} (hN : Reg.NoQ Q)
    (hQ : ∀ (x12 x55 x56 x57 x58 x59 x60 x61 x62 x63 x64 x65 x66 x67 x68 x69 x70 x71 x72 x73 x74 x75 x76 x77 x78 x79 x80 x81 : Value) (w' : World) (va' : Value) (us' : List Value) (l' : List (List Bool)), SubS w2 w' S gs va' us' l' → ExpM L (leafR S lv) (brR S brs) l0 l' d (fun x' i' _ => x' < x ∨ x' = x ∧ i' < i + 1) → Mid L (brR S brs) l0 l' →
      Q (.exit 8) ⟨List.toArray (u0 :: u1 :: (.pointer (some ⟨g2, 0, none⟩)) :: u3 :: u4 :: u5 :: (.pointer (some ⟨gs, 0, none⟩)) :: u7 :: (.int .i64 d) :: (.int .i64 l0.length) :: (.int .i64 x) :: (.int .i64 i) :: x12 :: u13 :: u14 :: u15 :: u16 :: u17 :: u18 :: u19 :: u20 :: u21 :: u22 :: 
      u23 :: u24 :: u25 :: u26 :: u27 :: u28 :: u29 :: u30 :: u31 :: u32 :: u33 :: u34 :: u35 :: u36 :: u37 :: u38 :: u39 :: u40 :: u41 :: u42 :: u43 :: u44 :: u45 :: u46 :: u47 :: u48 :: u49 :: u50 :: u51 :: u52 :: u53 :: u54 :: x55 :: x56 :: x57 :: x58 :: x59 :: 
      x60 :: x61 :: x62 :: x63 :: x64 :: x65 :: x66 :: x67 :: x68 :: x69 :: x70 :: x71 :: x72 :: x73 :: x74 :: x75 :: x76 :: x77 :: x78 :: x79 :: x80 :: x81 :: u82 :: u83 :: u84 :: u85 :: u86 :: u87 :: u88 :: u89 :: u90 :: u91 :: u92 :: u93 :: u94 :: u95 :: u96 :: 
      u97 :: u98 :: u99 :: u100 :: u101 :: u102 :: u103 :: u104 :: u105 :: u106 :: u107 :: u108 :: u109 :: u110 :: u111 :: u112 :: u113 :: u114 :: u115 :: u116 :: u117 :: u118 :: u119 :: u120 :: u121 :: u122 :: u123 :: u124 :: u125 :: u126 :: u127 :: u128 :: u129 :: 
      u130 :: u131 :: u132 :: u133 :: u134 :: u135 :: u136 :: u137 :: u138 :: u139 :: u140 :: u141 :: u142 :: u143 :: u144 :: u145 :: u146 :: u147 :: u148 :: u149 :: u150 :: u151 :: u152 :: u153 :: u154 :: u155 :: u156 :: u157 :: u158 :: u159 :: u160 :: []), []⟩ w') :
    (Code.loop (loopBody Try.f76 4)).wp Try.prog Q ⟨List.toArray (u0 :: u1 :: (.pointer (some ⟨g2, 0, none⟩)) :: u3 :: u4 :: u5 :: (.pointer (some ⟨gs, 0, none⟩)) :: u7 :: (.int .i64 d) :: (.int .i64 l0.length) :: (.int .i64 x) :: (.int .i64 i) :: (.int .i64 0) :: u13 :: u14 :: u15 :: u16 :: u17 :: u18 :: u19 :: u20 :: u21 :: 
      u22 :: u23 :: u24 :: u25 :: u26 :: u27 :: u28 :: u29 :: u30 :: u31 :: u32 :: u33 :: u34 :: u35 :: u36 :: u37 :: u38 :: u39 :: u40 :: u41 :: u42 :: u43 :: u44 :: u45 :: u46 :: u47 :: u48 :: u49 :: u50 :: u51 :: u52 :: u53 :: u54 :: u55 :: u56 :: u57 :: u58 :: 
      u59 :: u60 :: u61 :: u62 :: u63 :: u64 :: u65 :: u66 :: u67 :: u68 :: u69 :: u70 :: u71 :: u72 :: u73 :: u74 :: u75 :: u76 :: u77 :: u78 :: u79 :: u80 :: u81 :: u82 :: u83 :: u84 :: u85 :: u86 :: u87 :: u88 :: u89 :: u90 :: u91 :: u92 :: u93 :: u94 :: u95 :: 
      u96 :: u97 :: u98 :: u99 :: u100 :: u101 :: u102 :: u103 :: u104 :: u105 :: u106 :: u107 :: u108 :: u109 :: u110 :: u111 :: u112 :: u113 :: u114 :: u115 :: u116 :: u117 :: u118 :: u119 :: u120 :: u121 :: u122 :: u123 :: u124 :: u125 :: u126 :: u127 :: u128 :: 
      u129 :: u130 :: u131 :: u132 :: u133 :: u134 :: u135 :: u136 :: u137 :: u138 :: u139 :: u140 :: u141 :: u142 :: u143 :: u144 :: u145 :: u146 :: u147 :: u148 :: u149 :: u150 :: u151 :: u152 :: u153 :: u154 :: u155 :: u156 :: u157 :: u158 :: u159 :: u160 :: []), []⟩ w := by
  conv => arg 2; arg 1; whnf
  obtain ⟨hL1, hL8, hS64⟩ := hX.S64
  have hMM := hide hM
  have hMid0 := hide hMid
  clear hM hMid
  go_loopw [12] (fun kk wr => ∃ (k : Nat) (va' : Value) (us' : List Value) (l' : List (List Bool)), kk = .int .i64 (k : Int) ∧ k ≤ l0.length ∧ SubS w2 wr S gs va' us' l' ∧
    Hid (ExpM L (leafR S lv) (brR S brs) l0 l' d (fun x' i' k' => x' < x ∨ x' = x ∧ i' < i ∨ x' = x ∧ i' = i ∧ k' < k)) ∧ Hid (Mid L (brR S brs) l0 l')) (fun kk _ => l0.length - (intOf kk).toNat)
  case atStart => exact ⟨0, va, us, l, rfl, Nat.zero_le _, hS, hMM.out.imp (fun x' i' k' _ _ _ h => by omega), hMid0.out⟩
  case round =>
    obtain ⟨k, va', us', l', rfl, hk, hS', hE, hMd⟩ := hrel
    by_cases hlt : k < l0.length
    · have hpl := hE.out.pre.length_le
      have hcl := hcap l' hMd.out hE.out.reach
      by_cases hdd : i < d ∧ k < d
      · obtain ⟨hd1, hd2⟩ := hdd
        go_wp2_with fail
        refine ⟨⟨k + 1, va', us', l', by go_num, by omega, hS', hE.out.imp (fun x' i' k' _ _ _ h => by omega), hMd.out⟩, by simp [intOf]; omega⟩
      · obtain ⟨gl, cl, gi, s, rfl, hls, hci, hMi⟩ := hS'.get (i := i) (by omega)
        obtain ⟨gl', cl', gk, u, hv2, hlu, hck, hMk⟩ := hS'.get (i := k) (by omega)
        injection hv2 with hv2 _ hv3
        injection hv2 with hv2
        injection hv2 with hv2
        subst hv2 hv3
        have hc2 := (hX.at hS'.below).blk.cell
        have hcs := hS'.sets.blk.cell
        have hi0 : l0[i]? = some s := by
          obtain ⟨y, hy⟩ := get_lt hi
          have := prefix_get hE.out.pre hy
          rw [hls] at this
          rw [hy, Option.some.inj this]
        have hk0 : l0[k]? = some u := by
          obtain ⟨y, hy⟩ := get_lt hlt
          have := prefix_get hE.out.pre hy
          rw [hlu] at this
          rw [hy, Option.some.inj this]
        have hE2 := hide (hE.out.meet (D' := fun x' i' k' => x' < x ∨ x' = x ∧ i' < i ∨ x' = x ∧ i' = i ∧ k' < k + 1) hx hi0 hk0 (fun x' i' k' _ _ _ h => by omega))
        have hMd2 := hide (hMd.out.meet hx (List.mem_of_getElem? hi0) (List.mem_of_getElem? hk0))
        have hMi2 := hide (hMi.keep0 ((Kept.refl wr (fun _ => False)).drew))
        have hMk2 := hide (hMk.keep0 ((Kept.refl wr (fun _ => False)).drew))
        have hSS := hide hS'.drew
        have hXX := hide (hX.at hSS.out.below)
        clear hls hlu hi0 hk0 hMi hMk hcap
        have hor : d ≤ i ∨ i < d ∧ d ≤ k := by omega
        clear hdd
        rcases hor with h1 | ⟨h1, h2⟩
        all_goals
          go_wp2_with fail
          refine Reg.region_plain [0, 0, 0, 4, 0, 28, 60, 0, 128, 0, 896, 1920, 4095, 8191] (by kernel_rfl) (by repeat (first | exact hN | refine Reg.NoQ.then ?_ | refine Reg.NoQ.inBlock ?_)) ?_
          go_wp2_with (first
          | (go_at_call 82; refine Calls.ret (hXX.out.branch x hMi2.out hMk2.out) ?_; rintro r w4 ⟨hb4, hM4⟩; have hS4 := hSS.out.call hb4; have hM44 := hide hM4; clear hb4 hM4)
          | (go_at_call 106; refine Calls.ret (hS4.number hM44.out hS64 hcl) ?_; rintro r w5 ⟨rfl, -, va5, us5, hS5⟩))
          exact ⟨⟨k + 1, va5, us5, _, by go_num, by omega, hS5, hE2.out, hMd2.out⟩, by simp [intOf]; omega⟩
    · obtain rfl : k = l0.length := by omega
      go_wp2_with fail
      exact hQ _ _ _ _ _ _ _ _ _ _ _ _ _ _ _ _ _ _ _ _ _ _ _ _ _ _ _ _ wr va' us' l' hS' (hE.out.imp (fun x' i' k' _ _ h3 h => by omega)) hMd.out
end Go.Proofs.Ytnimlcbgeiajiaa

namespace Go.Proofs.Ytnimlcbgeiajiaa
open Go.RowKit

set_option maxHeartbeats 8000000 in
set_option maxRecDepth 100000 in
theorem sub_i {w2 w : World} {g2 L S gs x d : Nat} {va : Value} {us : List Value} {A1 A2 A3 : Option Addr} {c1 c2 c3 : Nat} {acc : List Int} {lv : List Leaf} {brs : List Branch} (hX : SubX w2 g2 L S A1 A2 A3 c1 c2 c3 acc lv brs) (hx : x < L)
    {l0 l : List (List Bool)} (hn : l0.length ≤ 33000) (hS : SubS w2 w S gs va us l) (hM : ExpM L (leafR S lv) (brR S brs) l0 l d (fun x' _ _ => x' < x)) (hMid : Mid L (brR S brs) l0 l)
    (hcap : ∀ l, Mid L (brR S brs) l0 l → (∀ s ∈ l, Reach L (leafR S lv) (brR S brs) s) → l.length ≤ 33000)
    {u0 u1 u3 u4 u5 u7 u12 u13 u14 u15 u16 u17 u18 u19 u20 u21 u22 u23 u24 u25 u26 u27 u28 u29 u30 u31 u32 u33 u34 u35 u36 u37 u38 u39 u40 u41 u42 u43 u44 u45 u46 u47 u48 u49 u50 u51 u52 u53 u54 u55 u56 u57 u58 u59 u60 u61 u62 u63 u64 u65 u66 u67 u68 u69 u70 u71 u72 u73 u74 u75 u76 u77 u78 u79 u80 u81 u82 u83 u84 u85 u86 u87 u88 u89 u90 u91 u92 u93 u94 u95 u96 u97 u98 u99 u100 u101 u102 u103 u104 u105 u106 u107 u108 u109 u110 u111 u112 u113 u114 u115 u116 u117 u118 u119 u120 u121 u122 u123 u124 u125 u126 u127 u128 u129 u130 u131 u132 u133 u134 u135 u136 u137 u138 u139 u140 u141 u142 u143 u144 u145 u146 u147 u148 u149 u150 u151 u152 u153 u154 u155 u156 u157 u158 u159 u160 : Value}
    {Q : Exit → Act → World → Prop} (hN : Reg.NoQ Q)
    (hQ : ∀ (x11 x12 x50 x51 x52 x53 x54 x55 x56 x57 x58 x59 x60 x61 x62 x63 x64 x65 x66 x67 x68 x69 x70 x71 x72 x73 x74 x75 x76 x77 x78 x79 x80 x81 : Value) (w' : World) (va' : Value) (us' : List Value) (l' : List (List Bool)), SubS w2 w' S gs va' us' l' → ExpM L (leafR S lv) (brR S brs) l0 l' d (fun x' _ _ => x' < x + 1) → Mid L (brR S brs) l0 l' →
      Q (.exit 6) ⟨List.toArray (u0 :: u1 :: (.pointer (some ⟨g2, 0, none⟩)) :: u3 :: u4 :: u5 :: (.pointer (some ⟨gs, 0, none⟩)) :: u7 :: (.int .i64 d) :: (.int .i64 l0.length) :: (.int .i64 x) :: x11 :: x12 :: u13 :: u14 :: u15 :: u16 :: u17 :: u18 :: u19 :: u20 :: u21 :: u22 :: u23 :: u24 :: 
      u25 :: u26 :: u27 :: u28 :: u29 :: u30 :: u31 :: u32 :: u33 :: u34 :: u35 :: u36 :: u37 :: u38 :: u39 :: u40 :: u41 :: u42 :: u43 :: u44 :: u45 :: u46 :: u47 :: u48 :: u49 :: x50 :: x51 :: x52 :: x53 :: x54 :: x55 :: x56 :: x57 :: x58 :: x59 :: x60 :: x61 :: 
      x62 :: x63 :: x64 :: x65 :: x66 :: x67 :: x68 :: x69 :: x70 :: x71 :: x72 :: x73 :: x74 :: x75 :: x76 :: x77 :: x78 :: x79 :: x80 :: x81 :: u82 :: u83 :: u84 :: u85 :: u86 :: u87 :: u88 :: u89 :: u90 :: u91 :: u92 :: u93 :: u94 :: u95 :: u96 :: u97 :: u98 :: 
      u99 :: u100 :: u101 :: u102 :: u103 :: u104 :: u105 :: u106 :: u107 :: u108 :: u109 :: u110 :: u111 :: u112 :: u113 :: u114 :: u115 :: u116 :: u117 :: u118 :: u119 :: u120 :: u121 :: u122 :: u123 :: u124 :: u125 :: u126 :: u127 :: u128 :: u129 :: u130 :: u131 :: 
      u132 :: u133 :: u134 :: u135 :: u136 :: u137 :: u138 :: u139 :: u140 :: u141 :: u142 :: u143 :: u144 :: u145 :: u146 :: u147 :: u148 :: u149 :: u150 :: u151 :: u152 :: u153 :: u154 :: u155 :: u156 :: u157 :: u158 :: u159 :: u160 :: []), []⟩ w') :
    (Code.loop (loopBody Try.f76 3)).wp Try.prog Q ⟨List.toArray (u0 :: u1 :: (.pointer (some ⟨g2, 0, none⟩)) :: u3 :: u4 :: u5 :: (.pointer (some ⟨gs, 0, none⟩)) :: u7 :: (.int .i64 d) :: (.int .i64 l0.length) :: (.int .i64 x) :: (.int .i64 0) :: u12 :: u13 :: u14 :: u15 :: u16 :: u17 :: u18 :: u19 :: u20 :: u21 :: u22 :: 
      u23 :: u24 :: u25 :: u26 :: u27 :: u28 :: u29 :: u30 :: u31 :: u32 :: u33 :: u34 :: u35 :: u36 :: u37 :: u38 :: u39 :: u40 :: u41 :: u42 :: u43 :: u44 :: u45 :: u46 :: u47 :: u48 :: u49 :: u50 :: u51 :: u52 :: u53 :: u54 :: u55 :: u56 :: u57 :: u58 :: u59 :: 
      u60 :: u61 :: u62 :: u63 :: u64 :: u65 :: u66 :: u67 :: u68 :: u69 :: u70 :: u71 :: u72 :: u73 :: u74 :: u75 :: u76 :: u77 :: u78 :: u79 :: u80 :: u81 :: u82 :: u83 :: u84 :: u85 :: u86 :: u87 :: u88 :: u89 :: u90 :: u91 :: u92 :: u93 :: u94 :: u95 :: u96 :: 
      u97 :: u98 :: u99 :: u100 :: u101 :: u102 :: u103 :: u104 :: u105 :: u106 :: u107 :: u108 :: u109 :: u110 :: u111 :: u112 :: u113 :: u114 :: u115 :: u116 :: u117 :: u118 :: u119 :: u120 :: u121 :: u122 :: u123 :: u124 :: u125 :: u126 :: u127 :: u128 :: u129 :: 
      u130 :: u131 :: u132 :: u133 :: u134 :: u135 :: u136 :: u137 :: u138 :: u139 :: u140 :: u141 :: u142 :: u143 :: u144 :: u145 :: u146 :: u147 :: u148 :: u149 :: u150 :: u151 :: u152 :: u153 :: u154 :: u155 :: u156 :: u157 :: u158 :: u159 :: u160 :: []), []⟩ w := by
  conv => arg 2; arg 1; whnf
  have hMM := hide hM
  have hMid0 := hide hMid
  have hcc := hide hcap
  clear hM hMid hcap
  go_loopw [11] (fun ii wr => ∃ (i : Nat) (va' : Value) (us' : List Value) (l' : List (List Bool)), ii = .int .i64 (i : Int) ∧ i ≤ l0.length ∧ SubS w2 wr S gs va' us' l' ∧
    Hid (ExpM L (leafR S lv) (brR S brs) l0 l' d (fun x' i' _ => x' < x ∨ x' = x ∧ i' < i)) ∧ Hid (Mid L (brR S brs) l0 l')) (fun ii _ => l0.length - (intOf ii).toNat)
  case atStart => exact ⟨0, va, us, l, rfl, Nat.zero_le _, hS, hMM.out.imp (fun x' i' k' _ _ _ h => by omega), hMid0.out⟩
  case round =>
    obtain ⟨i, va', us', l', rfl, hi, hS', hE, hMd⟩ := hrel
    by_cases hlt : i < l0.length
    · have hSS := hide hS'
      clear hS'
      go_wp2_with fail
      refine sub_k hX hx hlt hn hSS.out hE.out hMd.out hcc.out ?_ ?_
      · repeat (first | exact hN | refine Reg.NoQ.then ?_ | refine Reg.NoQ.inBlock ?_)
      · iterate 28 (intro _)
        intro w3 va3 us3 l3 hS3 hE3 hM3
        have hS33 := hide hS3
        have hE33 := hide hE3
        have hM33 := hide hM3
        clear hS3 hE3 hM3
        go_wp2_with fail
        exact ⟨⟨i + 1, va3, us3, l3, by go_num, by omega, hS33.out, hE33.out, hM33.out⟩, by simp [intOf]; omega⟩
    · obtain rfl : i = l0.length := by omega
      have hSS := hide hS'
      clear hS'
      go_wp2_with fail
      exact hQ _ _ _ _ _ _ _ _ _ _ _ _ _ _ _ _ _ _ _ _ _ _ _ _ _ _ _ _ _ _ _ _ _ _ wr va' us' l' hSS.out (hE.out.imp (fun x' i' k' _ h2 _ h => by omega)) hMd.out

set_option maxHeartbeats 8000000 in
set_option maxRecDepth 100000 in
theorem sub_x {w2 w : World} {g2 L S gs d : Nat} {va : Value} {us : List Value} {A1 A2 A3 : Option Addr} {c1 c2 c3 : Nat} {acc : List Int} {lv : List Leaf} {brs : List Branch} (hX : SubX w2 g2 L S A1 A2 A3 c1 c2 c3 acc lv brs)
    {l : List (List Bool)} (hn : l.length ≤ 33000) (hS : SubS w2 w S gs va us l) (hM : Expl L (leafR S lv) (brR S brs) l d)
    (hcap : ∀ l', Mid L (brR S brs) l l' → (∀ s ∈ l', Reach L (leafR S lv) (brR S brs) s) → l'.length ≤ 33000)
    {u0 u1 u3 u4 u5 u7 u11 u12 u13 u14 u15 u16 u17 u18 u19 u20 u21 u22 u23 u24 u25 u26 u27 u28 u29 u30 u31 u32 u33 u34 u35 u36 u37 u38 u39 u40 u41 u42 u43 u44 u45 u46 u47 u48 u49 u50 u51 u52 u53 u54 u55 u56 u57 u58 u59 u60 u61 u62 u63 u64 u65 u66 u67 u68 u69 u70 u71 u72 u73 u74 u75 u76 u77 u78 u79 u80 u81 u82 u83 u84 u85 u86 u87 u88 u89 u90 u91 u92 u93 u94 u95 u96 u97 u98 u99 u100 u101 u102 u103 u104 u105 u106 u107 u108 u109 u110 u111 u112 u113 u114 u115 u116 u117 u118 u119 u120 u121 u122 u123 u124 u125 u126 u127 u128 u129 u130 u131 u132 u133 u134 u135 u136 u137 u138 u139 u140 u141 u142 u143 u144 u145 u146 u147 u148 u149 u150 u151 u152 u153 u154 u155 u156 u157 u158 u159 u160 : Value}
    {Q : Exit → Act → World → Prop} (hN : Reg.NoQ Q)
    (hQ : ∀ (x10 x11 x12 x44 x45 x46 x47 x48 x49 x50 x51 x52 x53 x54 x55 x56 x57 x58 x59 x60 x61 x62 x63 x64 x65 x66 x67 x68 x69 x70 x71 x72 x73 x74 x75 x76 x77 x78 x79 x80 x81 : Value) (w' : World) (va' : Value) (us' : List Value) (l' : List (List Bool)), SubS w2 w' S gs va' us' l' → Expl L (leafR S lv) (brR S brs) l' l.length → Mid L (brR S brs) l l' →
      Q (.exit 4) ⟨List.toArray (u0 :: u1 :: (.pointer (some ⟨g2, 0, none⟩)) :: u3 :: u4 :: u5 :: (.pointer (some ⟨gs, 0, none⟩)) :: u7 :: (.int .i64 d) :: (.int .i64 l.length) :: x10 :: x11 :: x12 :: u13 :: u14 :: u15 :: u16 :: u17 :: u18 :: u19 :: u20 :: u21 :: u22 :: u23 :: u24 :: u25 :: 
      u26 :: u27 :: u28 :: u29 :: u30 :: u31 :: u32 :: u33 :: u34 :: u35 :: u36 :: u37 :: u38 :: u39 :: u40 :: u41 :: u42 :: u43 :: x44 :: x45 :: x46 :: x47 :: x48 :: x49 :: x50 :: x51 :: x52 :: x53 :: x54 :: x55 :: x56 :: x57 :: x58 :: x59 :: x60 :: x61 :: x62 :: 
      x63 :: x64 :: x65 :: x66 :: x67 :: x68 :: x69 :: x70 :: x71 :: x72 :: x73 :: x74 :: x75 :: x76 :: x77 :: x78 :: x79 :: x80 :: x81 :: u82 :: u83 :: u84 :: u85 :: u86 :: u87 :: u88 :: u89 :: u90 :: u91 :: u92 :: u93 :: u94 :: u95 :: u96 :: u97 :: u98 :: u99 :: 
      u100 :: u101 :: u102 :: u103 :: u104 :: u105 :: u106 :: u107 :: u108 :: u109 :: u110 :: u111 :: u112 :: u113 :: u114 :: u115 :: u116 :: u117 :: u118 :: u119 :: u120 :: u121 :: u122 :: u123 :: u124 :: u125 :: u126 :: u127 :: u128 :: u129 :: u130 :: u131 :: u132 :: 
      u133 :: u134 :: u135 :: u136 :: u137 :: u138 :: u139 :: u140 :: u141 :: u142 :: u143 :: u144 :: u145 :: u146 :: u147 :: u148 :: u149 :: u150 :: u151 :: u152 :: u153 :: u154 :: u155 :: u156 :: u157 :: u158 :: u159 :: u160 :: []), []⟩ w') :
    (Code.loop (loopBody Try.f76 2)).wp Try.prog Q ⟨List.toArray (u0 :: u1 :: (.pointer (some ⟨g2, 0, none⟩)) :: u3 :: u4 :: u5 :: (.pointer (some ⟨gs, 0, none⟩)) :: u7 :: (.int .i64 d) :: (.int .i64 l.length) :: (.int .i64 0) :: u11 :: u12 :: u13 :: u14 :: u15 :: u16 :: u17 :: u18 :: u19 :: u20 :: u21 :: u22 :: u23 :: u24 :: 
      u25 :: u26 :: u27 :: u28 :: u29 :: u30 :: u31 :: u32 :: u33 :: u34 :: u35 :: u36 :: u37 :: u38 :: u39 :: u40 :: u41 :: u42 :: u43 :: u44 :: u45 :: u46 :: u47 :: u48 :: u49 :: u50 :: u51 :: u52 :: u53 :: u54 :: u55 :: u56 :: u57 :: u58 :: u59 :: u60 :: u61 :: 
      u62 :: u63 :: u64 :: u65 :: u66 :: u67 :: u68 :: u69 :: u70 :: u71 :: u72 :: u73 :: u74 :: u75 :: u76 :: u77 :: u78 :: u79 :: u80 :: u81 :: u82 :: u83 :: u84 :: u85 :: u86 :: u87 :: u88 :: u89 :: u90 :: u91 :: u92 :: u93 :: u94 :: u95 :: u96 :: u97 :: u98 :: 
      u99 :: u100 :: u101 :: u102 :: u103 :: u104 :: u105 :: u106 :: u107 :: u108 :: u109 :: u110 :: u111 :: u112 :: u113 :: u114 :: u115 :: u116 :: u117 :: u118 :: u119 :: u120 :: u121 :: u122 :: u123 :: u124 :: u125 :: u126 :: u127 :: u128 :: u129 :: u130 :: u131 :: 
      u132 :: u133 :: u134 :: u135 :: u136 :: u137 :: u138 :: u139 :: u140 :: u141 :: u142 :: u143 :: u144 :: u145 :: u146 :: u147 :: u148 :: u149 :: u150 :: u151 :: u152 :: u153 :: u154 :: u155 :: u156 :: u157 :: u158 :: u159 :: u160 :: []), []⟩ w := by
  conv => arg 2; arg 1; whnf
  obtain ⟨hL1, hL8, hS64⟩ := hX.S64
  have hMM := hide hM
  have hcc := hide hcap
  clear hM hcap
  go_loopw [10] (fun xx wr => ∃ (x : Nat) (va' : Value) (us' : List Value) (l' : List (List Bool)), xx = .int .i64 (x : Int) ∧ x ≤ L ∧ SubS w2 wr S gs va' us' l' ∧
    Hid (ExpM L (leafR S lv) (brR S brs) l l' d (fun x' _ _ => x' < x)) ∧ Hid (Mid L (brR S brs) l l')) (fun xx _ => L - (intOf xx).toNat)
  case atStart => exact ⟨0, va, us, l, rfl, Nat.zero_le _, hS, hMM.out.start.imp (fun x' i' k' _ _ _ h => by omega), Mid.refl hMM.out.nodup⟩
  case round =>
    obtain ⟨x, va', us', l', rfl, hx, hS', hE, hMd⟩ := hrel
    have hc2 := (hX.at hS'.below).blk.cell
    have hSS := hide hS'
    clear hS'
    by_cases hlt : x < L
    · go_wp2_with fail
      refine sub_i hX hlt hn hSS.out hE.out hMd.out hcc.out ?_ ?_
      · repeat (first | exact hN | refine Reg.NoQ.then ?_ | refine Reg.NoQ.inBlock ?_)
      · iterate 34 (intro _)
        intro w3 va3 us3 l3 hS3 hE3 hM3
        have hS33 := hide hS3
        have hE33 := hide hE3
        have hM33 := hide hM3
        clear hS3 hE3 hM3 hc2
        go_wp2_with fail
        exact ⟨⟨x + 1, va3, us3, l3, by go_num, by omega, hS33.out, hE33.out, hM33.out⟩, by simp [intOf]; omega⟩
    · obtain rfl : x = L := by omega
      go_wp2_with fail
      exact hQ _ _ _ _ _ _ _ _ _ _ _ _ _ _ _ _ _ _ _ _ _ _ _ _ _ _ _ _ _ _ _ _ _ _ _ _ _ _ _ _ _ wr va' us' l' hSS.out (hE.out.finish (fun x' i' k' h1 _ _ => h1)) hMd.out

/-- How many sets there can be on the way. -/
def CapM (m : Int) (L S : Nat) (lv : List Leaf) (brs : List Branch) : Prop := m = 64 ∨ m = -1 ∧ ∀ l : List (List Bool), l.Nodup → (∀ s ∈ l, Reach L (leafR S lv) (brR S brs) s) → l.length ≤ 20000

set_option maxHeartbeats 8000000 in
set_option maxRecDepth 100000 in
theorem sub_rounds {w2 w : World} {g2 g4 L S gs : Nat} {m : Int} {va : Value} {us : List Value} {A1 A2 A3 : Option Addr} {c1 c2 c3 : Nat} {acc : List Int} {lv : List Leaf} {brs : List Branch} (hX : SubX w2 g2 L S A1 A2 A3 c1 c2 c3 acc lv brs) (hm : CapM m L S lv brs)
    (hg4 : Blk w2 g4 84 #[.int .i64 0, .slice none 0 0, .slice none 0 0, .slice none 0 0])
    {l : List (List Bool)} (hn : l.length ≤ 33000) (hS : SubS w2 w S gs va us l) (hM : Expl L (leafR S lv) (brR S brs) l 0)
    {u0 u3 u5 u7 u9 u10 u11 u12 u13 u14 u15 u16 u17 u18 u19 u20 u21 u22 u23 u24 u25 u26 u27 u28 u29 u30 u31 u32 u33 u34 u35 u36 u37 u38 u39 u40 u41 u42 u43 u44 u45 u46 u47 u48 u49 u50 u51 u52 u53 u54 u55 u56 u57 u58 u59 u60 u61 u62 u63 u64 u65 u66 u67 u68 u69 u70 u71 u72 u73 u74 u75 u76 u77 u78 u79 u80 u81 u82 u83 u84 u85 u86 u87 u88 u89 u90 u91 u92 u93 u94 u95 u96 u97 u98 u99 u100 u101 u102 u103 u104 u105 u106 u107 u108 u109 u110 u111 u112 u113 u114 u115 u116 u117 u118 u119 u120 u121 u122 u123 u124 u125 u126 u127 u128 u129 u130 u131 u132 u133 u134 u135 u136 u137 u138 u139 u140 u141 u142 u143 u144 u145 u146 u147 u148 u149 u150 u151 u152 u153 u154 u155 u156 u157 u158 u159 u160 : Value}
    {Q : Exit → Act → World → Prop} (hN : Reg.NoQ Q)
    (hQ : ∀ (x5 x8 x9 x10 x11 x12 x28 x29 x30 x31 x32 x33 x34 x35 x36 x37 x38 x39 x40 x41 x42 x43 x44 x45 x46 x47 x48 x49 x50 x51 x52 x53 x54 x55 x56 x57 x58 x59 x60 x61 x62 x63 x64 x65 x66 x67 x68 x69 x70 x71 x72 x73 x74 x75 x76 x77 x78 x79 x80 x81 x82 : Value) (w' : World) (va' : Value) (us' : List Value) (l' : List (List Bool)), SubS w2 w' S gs va' us' l' → Expl L (leafR S lv) (brR S brs) l' l'.length → (m = 64 → l'.length ≤ 64) → l'.length ≤ 33000 →
      Q (.exit 2) ⟨List.toArray (u0 :: (.int .i64 m) :: (.pointer (some ⟨g2, 0, none⟩)) :: u3 :: (.pointer (some ⟨g4, 0, none⟩)) :: x5 :: (.pointer (some ⟨gs, 0, none⟩)) :: u7 :: x8 :: x9 :: x10 :: x11 :: x12 :: u13 :: u14 :: u15 :: u16 :: u17 :: u18 :: u19 :: u20 :: u21 :: u22 :: u23 :: u24 :: 
      u25 :: u26 :: u27 :: x28 :: x29 :: x30 :: x31 :: x32 :: x33 :: x34 :: x35 :: x36 :: x37 :: x38 :: x39 :: x40 :: x41 :: x42 :: x43 :: x44 :: x45 :: x46 :: x47 :: x48 :: x49 :: x50 :: x51 :: x52 :: x53 :: x54 :: x55 :: x56 :: x57 :: x58 :: x59 :: x60 :: x61 :: 
      x62 :: x63 :: x64 :: x65 :: x66 :: x67 :: x68 :: x69 :: x70 :: x71 :: x72 :: x73 :: x74 :: x75 :: x76 :: x77 :: x78 :: x79 :: x80 :: x81 :: x82 :: u83 :: u84 :: u85 :: u86 :: u87 :: u88 :: u89 :: u90 :: u91 :: u92 :: u93 :: u94 :: u95 :: u96 :: u97 :: u98 :: 
      u99 :: u100 :: u101 :: u102 :: u103 :: u104 :: u105 :: u106 :: u107 :: u108 :: u109 :: u110 :: u111 :: u112 :: u113 :: u114 :: u115 :: u116 :: u117 :: u118 :: u119 :: u120 :: u121 :: u122 :: u123 :: u124 :: u125 :: u126 :: u127 :: u128 :: u129 :: u130 :: u131 :: 
      u132 :: u133 :: u134 :: u135 :: u136 :: u137 :: u138 :: u139 :: u140 :: u141 :: u142 :: u143 :: u144 :: u145 :: u146 :: u147 :: u148 :: u149 :: u150 :: u151 :: u152 :: u153 :: u154 :: u155 :: u156 :: u157 :: u158 :: u159 :: u160 :: []), []⟩ w')
    (hQr : ∀ (x8 x9 x10 x11 x12 x28 x29 x30 x31 x32 x33 x34 x35 x36 x37 x38 x39 x40 x41 x42 x43 x44 x45 x46 x47 x48 x49 x50 x51 x52 x53 x54 x55 x56 x57 x58 x59 x60 x61 x62 x63 x64 x65 x66 x67 x68 x69 x70 x71 x72 x73 x74 x75 x76 x77 x78 x79 x80 x81 x82 : Value) (w' : World) (l' : List (List Bool)), Below w2.heap.size w2 w' → m = 64 → 64 < l'.length → l'.Nodup → (∀ s ∈ l', Reach L (leafR S lv) (brR S brs) s) →
      Q .ret ⟨List.toArray (u0 :: (.int .i64 m) :: (.pointer (some ⟨g2, 0, none⟩)) :: u3 :: (.pointer (some ⟨g4, 0, none⟩)) :: (.bool false) :: (.pointer (some ⟨gs, 0, none⟩)) :: u7 :: x8 :: x9 :: x10 :: x11 :: x12 :: u13 :: u14 :: u15 :: u16 :: u17 :: u18 :: u19 :: u20 :: u21 :: u22 :: 
      u23 :: u24 :: u25 :: u26 :: u27 :: x28 :: x29 :: x30 :: x31 :: x32 :: x33 :: x34 :: x35 :: x36 :: x37 :: x38 :: x39 :: x40 :: x41 :: x42 :: x43 :: x44 :: x45 :: x46 :: x47 :: x48 :: x49 :: x50 :: x51 :: x52 :: x53 :: x54 :: x55 :: x56 :: x57 :: x58 :: x59 :: 
      x60 :: x61 :: x62 :: x63 :: x64 :: x65 :: x66 :: x67 :: x68 :: x69 :: x70 :: x71 :: x72 :: x73 :: x74 :: x75 :: x76 :: x77 :: x78 :: x79 :: x80 :: x81 :: x82 :: u83 :: u84 :: u85 :: u86 :: u87 :: u88 :: u89 :: u90 :: u91 :: u92 :: u93 :: u94 :: u95 :: u96 :: 
      u97 :: u98 :: u99 :: u100 :: u101 :: u102 :: u103 :: u104 :: u105 :: u106 :: u107 :: u108 :: u109 :: u110 :: u111 :: u112 :: u113 :: u114 :: u115 :: u116 :: u117 :: u118 :: u119 :: u120 :: u121 :: u122 :: u123 :: u124 :: u125 :: u126 :: u127 :: u128 :: u129 :: 
      u130 :: u131 :: u132 :: u133 :: u134 :: u135 :: u136 :: u137 :: u138 :: u139 :: u140 :: u141 :: u142 :: u143 :: u144 :: u145 :: u146 :: u147 :: u148 :: u149 :: u150 :: u151 :: u152 :: u153 :: u154 :: u155 :: u156 :: u157 :: u158 :: u159 :: u160 :: []), []⟩ (set4t w' g4 (.int .i64 0) (.slice none 0 0) (.slice none 0 0) (.slice none 0 0))) :
    (Code.loop (loopBody Try.f76 1)).wp Try.prog Q ⟨List.toArray (u0 :: (.int .i64 m) :: (.pointer (some ⟨g2, 0, none⟩)) :: u3 :: (.pointer (some ⟨g4, 0, none⟩)) :: u5 :: (.pointer (some ⟨gs, 0, none⟩)) :: u7 :: (.int .i64 0) :: u9 :: u10 :: u11 :: u12 :: u13 :: u14 :: u15 :: u16 :: u17 :: u18 :: u19 :: u20 :: u21 :: u22 :: 
      u23 :: u24 :: u25 :: u26 :: u27 :: u28 :: u29 :: u30 :: u31 :: u32 :: u33 :: u34 :: u35 :: u36 :: u37 :: u38 :: u39 :: u40 :: u41 :: u42 :: u43 :: u44 :: u45 :: u46 :: u47 :: u48 :: u49 :: u50 :: u51 :: u52 :: u53 :: u54 :: u55 :: u56 :: u57 :: u58 :: u59 :: 
      u60 :: u61 :: u62 :: u63 :: u64 :: u65 :: u66 :: u67 :: u68 :: u69 :: u70 :: u71 :: u72 :: u73 :: u74 :: u75 :: u76 :: u77 :: u78 :: u79 :: u80 :: u81 :: u82 :: u83 :: u84 :: u85 :: u86 :: u87 :: u88 :: u89 :: u90 :: u91 :: u92 :: u93 :: u94 :: u95 :: u96 :: 
      u97 :: u98 :: u99 :: u100 :: u101 :: u102 :: u103 :: u104 :: u105 :: u106 :: u107 :: u108 :: u109 :: u110 :: u111 :: u112 :: u113 :: u114 :: u115 :: u116 :: u117 :: u118 :: u119 :: u120 :: u121 :: u122 :: u123 :: u124 :: u125 :: u126 :: u127 :: u128 :: u129 :: 
      u130 :: u131 :: u132 :: u133 :: u134 :: u135 :: u136 :: u137 :: u138 :: u139 :: u140 :: u141 :: u142 :: u143 :: u144 :: u145 :: u146 :: u147 :: u148 :: u149 :: u150 :: u151 :: u152 :: u153 :: u154 :: u155 :: u156 :: u157 :: u158 :: u159 :: u160 :: []), []⟩ w := by
  conv => arg 2; arg 1; whnf
  obtain ⟨hL1, hL8, hS64⟩ := hX.S64
  have hMM := hide hM
  clear hM
  go_loopw [8] (fun dd wr => ∃ (d : Nat) (va' : Value) (us' : List Value) (l' : List (List Bool)), dd = .int .i64 (d : Int) ∧ SubS w2 wr S gs va' us' l' ∧ d ≤ l'.length ∧ l'.length ≤ 33000 ∧ (m = 64 → d ≤ 64) ∧ Hid (Expl L (leafR S lv) (brR S brs) l' d)) (fun dd _ => 33000 - (intOf dd).toNat)
  case atStart => exact ⟨0, va, us, l, rfl, hS, Nat.zero_le _, hn, fun _ => by omega, hMM.out⟩
  case round =>
    obtain ⟨d, va', us', l', rfl, hS', hd, hl', hdm, hE⟩ := hrel
    obtain ⟨A, c, rfl⟩ := slice_of_own hS'.sets.own
    have hcs := hS'.sets.blk.cell
    have hB4 := hg4.below hS'.below
    have hc4 := hB4.cell
    have hf4 := hB4.frozen
    have hl4 := hB4.lt
    have hSS := hide hS'
    clear hS' hB4
    by_cases hlt : d < l'.length
    · rcases hm with rfl | ⟨rfl, hcap⟩
      · by_cases h64 : 64 < l'.length
        · go_wp2_with fail
          exact hQr _ _ _ _ _ _ _ _ _ _ _ _ _ _ _ _ _ _ _ _ _ _ _ _ _ _ _ _ _ _ _ _ _ _ _ _ _ _ _ _ _ _ _ _ _ _ _ _ _ _ _ _ _ _ _ _ _ _ _ _ wr l' hSS.out.below trivial h64 hE.out.nodup hE.out.reach
        · have hcp := hide (fun (l2 : List (List Bool)) (h2 : Mid L (brR S brs) l' l2) (_ : ∀ s ∈ l2, Reach L (leafR S lv) (brR S brs) s) => h2.len (by omega) hL8)
          go_wp2_with fail
          refine sub_x hX hl' hSS.out hE.out hcp.out ?_ ?_
          · repeat (first | exact hN | refine Reg.NoQ.then ?_ | refine Reg.NoQ.inBlock ?_)
          · iterate 41 (intro _)
            intro w3 va3 us3 l3 hS3 hE3 hM3
            have hle := hE3.le
            have hl3 := hcp.out l3 hM3 hE3.reach
            have hS33 := hide hS3
            have hE33 := hide hE3
            clear hS3 hE3 hM3 hcs hc4 hf4
            go_wp2_with fail
            exact ⟨⟨l'.length, va3, us3, l3, rfl, hS33.out, hle, hl3, fun _ => by omega, hE33.out⟩, by simp [intOf]; omega⟩
      · have hcp := hide (fun (l2 : List (List Bool)) (h2 : Mid L (brR S brs) l' l2) (h3 : ∀ s ∈ l2, Reach L (leafR S lv) (brR S brs) s) => Nat.le_trans (hcap l2 h2.nodup h3) (by omega : 20000 ≤ 33000))
        clear hcap
        go_wp2_with fail
        refine sub_x hX hl' hSS.out hE.out hcp.out ?_ ?_
        · repeat (first | exact hN | refine Reg.NoQ.then ?_ | refine Reg.NoQ.inBlock ?_)
        · iterate 41 (intro _)
          intro w3 va3 us3 l3 hS3 hE3 hM3
          have hle := hE3.le
          have hl3 := hcp.out l3 hM3 hE3.reach
          have hS33 := hide hS3
          have hE33 := hide hE3
          clear hS3 hE3 hM3 hcs hc4 hf4
          go_wp2_with fail
          exact ⟨⟨l'.length, va3, us3, l3, rfl, hS33.out, hle, hl3, fun _ => by omega, hE33.out⟩, by simp [intOf]; omega⟩
    · have e : d = l'.length := by omega
      have hEE := hE.out
      rw [e] at hEE hdm
      have hE2 := hide hEE
      have hdm2 := hide hdm
      clear e hEE hE hdm
      go_wp2_with fail
      exact hQ _ _ _ _ _ _ _ _ _ _ _ _ _ _ _ _ _ _ _ _ _ _ _ _ _ _ _ _ _ _ _ _ _ _ _ _ _ _ _ _ _ _ _ _ _ _ _ _ _ _ _ _ _ _ _ _ _ _ _ _ _ wr _ us' l' hSS.out hE2.out hdm2.out hl'
end Go.Proofs.Ytnimlcbgeiajiaa

namespace Go.Proofs.Ytnimlcbgeiajiaa
open Go.RowKit

set_option maxHeartbeats 4000000 in
set_option maxRecDepth 100000 in
/-- A set that has been met. -/
theorem setsNumber_old {w : World} {base B S gs : Nat} {va u : Value} {us : List Value} {rows : List (List Bool)} {m : List Bool} (h : SetsS w base B S gs va us rows) (hu : Marks w B S u m) (hS : S ≤ 100000) (hlen : rows.length ≤ 100000) (hmem : m ∈ rows) :
    Calls Try.prog 106 #[.pointer (some ⟨gs, 0, none⟩), u] w (Ret fun v w' => v = .int .i64 (numL rows m : Int) ∧ Below w.heap.size w w') := by
  obtain ⟨A, c, rfl⟩ := slice_of_own h.own
  have hS0 := hide h
  have hU0 := hide hu
  have hmm := hide hmem
  obtain ⟨gu, hgu, rfl, hbu, hlu⟩ := hu
  clear h hbu hlu hmem
  go_enter Try.func106, Try.ntmps106
  go_wp2_with fail
  go_loopw [5] (fun ii wr => ∃ (i : Nat), ii = .int .i64 (i : Int) ∧ i ≤ rows.length ∧ Below w.heap.size w wr ∧ Hid (∀ j, j < i → rows[j]? ≠ some m)) (fun ii _ => rows.length - (intOf ii).toNat)
  case atStart => exact ⟨0, rfl, Nat.zero_le _, Below.refl _ _, fun j hj => absurd hj (by omega)⟩
  case round =>
    obtain ⟨i, rfl, hi, hB, hE⟩ := hrel
    have hK := Kept.of_below hB (fun _ => False)
    have hSw := hide (hS0.out.keep0 hK)
    have hcs := hSw.out.blk.cell 0
    have hsz := hB.size
    by_cases hlt : i < rows.length
    · obtain ⟨mi, hmi⟩ := get_lt hlt
      obtain ⟨ui, hui⟩ := get_lt (l := us) (i := i) (by rw [hSw.out.len]; exact hlt)
      obtain ⟨ga, ca, hva, hci⟩ := own_get hSw.out.own hui
      injection hva with hA _ hc
      subst hA hc
      have hMi := hide (hSw.out.row i ui mi hui hmi)
      have hMu := hide (hU0.out.keep0 hK)
      have hmi2 := hide hmi
      obtain ⟨gi, hgi, rfl, -, -⟩ := hMi.out
      clear hmi hui
      by_cases he : mi = m
      · have hd : decide (mi = m) = true := decide_eq_true he
        have heq := hide he
        clear he
        go_wp2_with (go_at_call 114; refine Calls.ret (sameMarks_any hMi.out hMu.out hS) ?_; rintro v w3 ⟨rfl, hb3⟩; rw [hd]; have hb33 := hide hb3; clear hb3)
        go_ret
        have hi2 := hmi2.out
        rw [heq.out] at hi2
        exact ⟨by rw [idxOf_first hi2 hE.out]; rfl, hB.trans (hb33.out.mono hsz)⟩
      · have hd : decide (mi = m) = false := decide_eq_false he
        have hne := hide he
        clear he
        go_wp2_with (go_at_call 114; refine Calls.ret (sameMarks_any hMi.out hMu.out hS) ?_; rintro v w3 ⟨rfl, hb3⟩; rw [hd]; have hb33 := hide hb3; clear hb3)
        refine ⟨⟨i + 1, by simp, by omega, hB.trans (hb33.out.mono hsz), fun j hj => ?_⟩, by simp [intOf]; omega⟩
        by_cases hji : j = i
        · subst hji
          rw [hmi2.out]
          exact fun e => hne.out (Option.some.inj e)
        · exact hE.out j (by omega)
    · exfalso
      obtain ⟨j, hj⟩ := List.mem_iff_getElem?.1 hmm.out
      exact hE.out j (by have := lt_of_get hj; omega) hj

section
variable {w2 wr : World} {S gs : Nat} {va : Value} {us : List Value} {l : List (List Bool)}
theorem SubS.old (h : SubS w2 wr S gs va us l) {u : Value} {m : List Bool} (hu : Marks wr wr.heap.size S u m) (hS : S ≤ 65) (hl : l.length ≤ 33000) (hm : m ∈ l) :
    Calls Try.prog 106 #[.pointer (some ⟨gs, 0, none⟩), u] wr (Ret fun v w' => v = .int .i64 (numL l m : Int) ∧ Below wr.heap.size wr w') := setsNumber_old h.sets hu (by omega) (by omega) hm
end

set_option maxHeartbeats 8000000 in
set_option maxRecDepth 100000 in
theorem sub_leaves {w2 w : World} {g2 L S gs : Nat} {A1 A2 A3 : Option Addr} {c1 c2 c3 : Nat} {acc : List Int} {lv : List Leaf} {brs : List Branch} (hX : SubX w2 g2 L S A1 A2 A3 c1 c2 c3 acc lv brs)
    (hS : SubS w2 w S gs (.slice none 0 0) [] [])
    {u0 u1 u3 u4 u5 u8 u9 u10 u11 u12 u13 u14 u15 u16 u17 u18 u19 u20 u21 u22 u23 u24 u25 u26 u27 u28 u29 u30 u31 u32 u33 u34 u35 u36 u37 u38 u39 u40 u41 u42 u43 u44 u45 u46 u47 u48 u49 u50 u51 u52 u53 u54 u55 u56 u57 u58 u59 u60 u61 u62 u63 u64 u65 u66 u67 u68 u69 u70 u71 u72 u73 u74 u75 u76 u77 u78 u79 u80 u81 u82 u83 u84 u85 u86 u87 u88 u89 u90 u91 u92 u93 u94 u95 u96 u97 u98 u99 u100 u101 u102 u103 u104 u105 u106 u107 u108 u109 u110 u111 u112 u113 u114 u115 u116 u117 u118 u119 u120 u121 u122 u123 u124 u125 u126 u127 u128 u129 u130 u131 u132 u133 u134 u135 u136 u137 u138 u139 u140 u141 u142 u143 u144 u145 u146 u147 u148 u149 u150 u151 u152 u153 u154 u155 u156 u157 u158 u159 u160 : Value}
    {Q : Exit → Act → World → Prop}
    (hQ : ∀ (x7 x18 x19 x20 x21 x22 x23 x24 x25 x26 x27 : Value) (w' : World) (va' : Value) (us' : List Value) (l' : List (List Bool)), SubS w2 w' S gs va' us' l' → Expl L (leafR S lv) (brR S brs) l' 0 → l'.length ≤ 8 →
      Q (.exit 0) ⟨List.toArray (u0 :: u1 :: (.pointer (some ⟨g2, 0, none⟩)) :: u3 :: u4 :: u5 :: (.pointer (some ⟨gs, 0, none⟩)) :: x7 :: u8 :: u9 :: u10 :: u11 :: u12 :: u13 :: u14 :: u15 :: u16 :: u17 :: x18 :: x19 :: x20 :: x21 :: x22 :: x23 :: x24 :: x25 :: x26 :: x27 :: u28 :: u29 :: 
      u30 :: u31 :: u32 :: u33 :: u34 :: u35 :: u36 :: u37 :: u38 :: u39 :: u40 :: u41 :: u42 :: u43 :: u44 :: u45 :: u46 :: u47 :: u48 :: u49 :: u50 :: u51 :: u52 :: u53 :: u54 :: u55 :: u56 :: u57 :: u58 :: u59 :: u60 :: u61 :: u62 :: u63 :: u64 :: u65 :: u66 :: 
      u67 :: u68 :: u69 :: u70 :: u71 :: u72 :: u73 :: u74 :: u75 :: u76 :: u77 :: u78 :: u79 :: u80 :: u81 :: u82 :: u83 :: u84 :: u85 :: u86 :: u87 :: u88 :: u89 :: u90 :: u91 :: u92 :: u93 :: u94 :: u95 :: u96 :: u97 :: u98 :: u99 :: u100 :: u101 :: u102 :: u103 :: 
      u104 :: u105 :: u106 :: u107 :: u108 :: u109 :: u110 :: u111 :: u112 :: u113 :: u114 :: u115 :: u116 :: u117 :: u118 :: u119 :: u120 :: u121 :: u122 :: u123 :: u124 :: u125 :: u126 :: u127 :: u128 :: u129 :: u130 :: u131 :: u132 :: u133 :: u134 :: u135 :: u136 :: 
      u137 :: u138 :: u139 :: u140 :: u141 :: u142 :: u143 :: u144 :: u145 :: u146 :: u147 :: u148 :: u149 :: u150 :: u151 :: u152 :: u153 :: u154 :: u155 :: u156 :: u157 :: u158 :: u159 :: u160 :: []), []⟩ w') :
    (Code.loop (loopBody Try.f76 0)).wp Try.prog Q ⟨List.toArray (u0 :: u1 :: (.pointer (some ⟨g2, 0, none⟩)) :: u3 :: u4 :: u5 :: (.pointer (some ⟨gs, 0, none⟩)) :: (.int .i64 0) :: u8 :: u9 :: u10 :: u11 :: u12 :: u13 :: u14 :: u15 :: u16 :: u17 :: u18 :: u19 :: u20 :: u21 :: u22 :: u23 :: u24 :: u25 :: u26 :: u27 :: u28 :: 
      u29 :: u30 :: u31 :: u32 :: u33 :: u34 :: u35 :: u36 :: u37 :: u38 :: u39 :: u40 :: u41 :: u42 :: u43 :: u44 :: u45 :: u46 :: u47 :: u48 :: u49 :: u50 :: u51 :: u52 :: u53 :: u54 :: u55 :: u56 :: u57 :: u58 :: u59 :: u60 :: u61 :: u62 :: u63 :: u64 :: u65 :: 
      u66 :: u67 :: u68 :: u69 :: u70 :: u71 :: u72 :: u73 :: u74 :: u75 :: u76 :: u77 :: u78 :: u79 :: u80 :: u81 :: u82 :: u83 :: u84 :: u85 :: u86 :: u87 :: u88 :: u89 :: u90 :: u91 :: u92 :: u93 :: u94 :: u95 :: u96 :: u97 :: u98 :: u99 :: u100 :: u101 :: u102 :: 
      u103 :: u104 :: u105 :: u106 :: u107 :: u108 :: u109 :: u110 :: u111 :: u112 :: u113 :: u114 :: u115 :: u116 :: u117 :: u118 :: u119 :: u120 :: u121 :: u122 :: u123 :: u124 :: u125 :: u126 :: u127 :: u128 :: u129 :: u130 :: u131 :: u132 :: u133 :: u134 :: u135 :: 
      u136 :: u137 :: u138 :: u139 :: u140 :: u141 :: u142 :: u143 :: u144 :: u145 :: u146 :: u147 :: u148 :: u149 :: u150 :: u151 :: u152 :: u153 :: u154 :: u155 :: u156 :: u157 :: u158 :: u159 :: u160 :: []), []⟩ w := by
  conv => arg 2; arg 1; whnf
  obtain ⟨hL1, hL8, hS64⟩ := hX.S64
  go_loopw [7] (fun xx wr => ∃ (x : Nat) (va' : Value) (us' : List Value) (l' : List (List Bool)), xx = .int .i64 (x : Int) ∧ x ≤ L ∧ SubS w2 wr S gs va' us' l' ∧ l'.length ≤ x ∧
    Hid (l' = (List.range x).foldl (fun l x => meetL l (leafR S lv x)) [])) (fun xx _ => L - (intOf xx).toNat)
  case atStart => exact ⟨0, _, [], [], rfl, Nat.zero_le _, hS, Nat.le_refl _, rfl⟩
  case round =>
    obtain ⟨x, va', us', l', rfl, hx, hS', hl, hE⟩ := hrel
    have hc2 := (hX.at hS'.below).blk.cell
    have hXX := hide (hX.at hS'.below)
    have hSS := hide hS'
    clear hS'
    by_cases hlt : x < L
    · go_wp2_with (first
        | (go_at_call 81; refine Calls.ret (hXX.out.leaf x) ?_; rintro r w4 ⟨hb4, hM4⟩; have hS4 := hSS.out.call hb4; have hM44 := hide hM4; clear hb4 hM4)
        | (go_at_call 106; refine Calls.ret (hS4.number hM44.out hS64 (by omega)) ?_; rintro r w5 ⟨rfl, -, va5, us5, hS5⟩))
      have hlm := length_meetL l' (leafR S lv x)
      refine ⟨⟨x + 1, va5, us5, _, by go_num, by omega, hS5, by omega, ?_⟩, by simp [intOf]; omega⟩
      show _ = _
      rw [List.range_succ, List.foldl_append, ← hE.out]
      rfl
    · obtain rfl : x = L := by omega
      go_wp2_with fail
      exact hQ _ _ _ _ _ _ _ _ _ _ _ wr va' us' l' hSS.out (Expl.first hE.out) (by omega)

/-- The table that is filled. -/
structure SubT (wB wr : World) (L n g13 gl ga gv cv : Nat) (gi ci : Nat → Nat) (gj : Nat → Nat → Nat) (lf : Nat → Nat) (br : Nat → Nat → Nat → Nat) (ac : Nat → Bool) : Prop where
  below : Below wB.heap.size wB wr
  t : TblW wr wB.heap.size L n gl ga gv cv gi ci gj lf br ac
  b : Blk wr g13 84 #[.int .i64 (L : Int), .slice (some ⟨gl, 0, none⟩) L L, .slice (some ⟨gv, 0, none⟩) L cv, .slice (some ⟨ga, 0, none⟩) n n]
  h13 : wB.heap.size ≤ g13
section
variable {wB wr w4 : World} {L n g13 gl ga gv cv : Nat} {gi ci : Nat → Nat} {gj : Nat → Nat → Nat} {lf : Nat → Nat} {br : Nat → Nat → Nat → Nat} {ac : Nat → Bool}
theorem SubT.call (h : SubT wB wr L n g13 gl ga gv cv gi ci gj lf br ac) (hb : Below wr.heap.size wr w4) : SubT wB w4 L n g13 gl ga gv cv gi ci gj lf br ac :=
  ⟨h.below.trans (hb.mono h.below.size), h.t.below hb, h.b.below hb, h.h13⟩
theorem SubT.drew (h : SubT wB wr L n g13 gl ga gv cv gi ci gj lf br ac) : SubT wB wr.drew L n g13 gl ga gv cv gi ci gj lf br ac := h.call (drew_below wr)
theorem SubT.setLeaf (h : SubT wB wr L n g13 gl ga gv cv gi ci gj lf br ac) (x v : Nat) : SubT wB (wr.setCell ⟨gl, x, none⟩ (.int .i64 (v : Int))) L n g13 gl ga gv cv gi ci gj (up1 lf x v) br ac := by
  have hk : Kept wr (wr.setCell ⟨gl, x, none⟩ (.int .i64 (v : Int))) (fun k => k = gl) := (Kept.refl wr (fun k => k = gl)).setCell (p := ⟨gl, x, none⟩) (fun _ => rfl) _
  exact ⟨h.below.trans (hk.below h.below.size fun b hb e => by have := h.t.bl; omega), h.t.setLeaf x v, h.b.kept hk (h.b.ne_ h.t.leaf (by decide)), h.h13⟩
theorem SubT.setBr (h : SubT wB wr L n g13 gl ga gv cv gi ci gj lf br ac) {x i : Nat} (hx : x < L) (hi : i < n) (k v : Nat) : SubT wB (wr.setCell ⟨gj x i, k, none⟩ (.int .i64 (v : Int))) L n g13 gl ga gv cv gi ci gj lf (up3 br x i k v) ac := by
  have hk : Kept wr (wr.setCell ⟨gj x i, k, none⟩ (.int .i64 (v : Int))) (fun k => k = gj x i) := (Kept.refl wr (fun k => k = gj x i)).setCell (p := ⟨gj x i, k, none⟩) (fun _ => rfl) _
  exact ⟨h.below.trans (hk.below h.below.size fun b hb e => by have := h.t.bj x hx i hi; omega), h.t.setBr hx hi k v, h.b.kept hk (h.b.ne_ (h.t.row x hx i hi) (by decide)), h.h13⟩
theorem SubT.setAcc (h : SubT wB wr L n g13 gl ga gv cv gi ci gj lf br ac) (q : Nat) (b : Bool) : SubT wB (wr.setCell ⟨ga, q, none⟩ (.bool b)) L n g13 gl ga gv cv gi ci gj lf br (up1 ac q b) := by
  have hk : Kept wr (wr.setCell ⟨ga, q, none⟩ (.bool b)) (fun k => k = ga) := (Kept.refl wr (fun k => k = ga)).setCell (p := ⟨ga, q, none⟩) (fun _ => rfl) _
  exact ⟨h.below.trans (hk.below h.below.size fun b hb e => by have := h.t.ba; omega), h.t.setAcc q b, h.b.kept hk (h.b.ne_ h.t.acc (by decide)), h.h13⟩
end
end Go.Proofs.Ytnimlcbgeiajiaa

namespace Go.Proofs.Ytnimlcbgeiajiaa
open Go.RowKit

set_option maxHeartbeats 8000000 in
set_option maxRecDepth 100000 in
theorem sub_fk {w2 wB w : World} {g2 L S gs g13 gl ga gv cv x i : Nat} {gi ci : Nat → Nat} {gj : Nat → Nat → Nat} {va : Value} {us : List Value} {A1 A2 A3 : Option Addr} {c1 c2 c3 : Nat} {acc : List Int} {lv : List Leaf} {brs : List Branch} (hX : SubX w2 g2 L S A1 A2 A3 c1 c2 c3 acc lv brs)
    {l : List (List Bool)} (hS : SubS w2 wB S gs va us l) (hE : Expl L (leafR S lv) (brR S brs) l l.length) (hl : l.length ≤ 33000) (hx : x < L) (hi : i < l.length)
    {lf : Nat → Nat} {br : Nat → Nat → Nat → Nat} {ac : Nat → Bool} (hT : SubT wB w L l.length g13 gl ga gv cv gi ci gj lf br ac) (hO : ∀ x' i' k', x' < L → i' < l.length → k' < l.length → (x' < x ∨ x' = x ∧ i' < i) → br x' i' k' = tabBr (brR S brs) l x' i' k')
    {u0 u1 u3 u4 u5 u7 u8 u9 u10 u11 u12 u17 u18 u19 u20 u21 u22 u23 u24 u25 u26 u27 u28 u29 u30 u31 u32 u33 u34 u35 u36 u37 u38 u39 u40 u41 u42 u43 u44 u45 u46 u47 u48 u49 u50 u51 u52 u53 u54 u55 u56 u57 u58 u59 u60 u61 u62 u63 u64 u65 u66 u67 u68 u69 u70 u71 u72 u73 u74 u75 u76 u77 u78 u79 u80 u81 u82 u83 u84 u85 u86 u87 u88 u89 u90 u91 u92 u93 u94 u95 u96 u97 u98 u99 u100 u101 u102 u103 u104 u105 u106 u107 u108 u109 u110 u111 u112 u113 u114 u115 u116 u117 u118 u119 u120 u121 u122 u123 u124 u125 u126 u127 u128 u129 u130 u131 u132 u133 u134 u135 u136 u137 u138 u139 u140 u141 u142 u143 u144 u145 u146 u147 u148 u149 u150 u151 u152 u153 u154 u155 u156 u157 u158 u159 u160 : Value}
    {Q : Exit → Act → World → Prop} (hN : Reg.NoQ Q)
    (hQ : ∀ (x16 x110 x111 x112 x113 x114 x115 x116 x117 x118 x119 x120 x121 x122 x123 x124 x125 x126 x127 x128 x129 x130 x131 x132 x133 x134 x135 x136 x137 x138 x139 x140 : Value) (w' : World) (br' : Nat → Nat → Nat → Nat), SubT wB w' L l.length g13 gl ga gv cv gi ci gj lf br' ac → (∀ x' i' k', x' < L → i' < l.length → k' < l.length → (x' < x ∨ x' = x ∧ i' < i + 1) → br' x' i' k' = tabBr (brR S brs) l x' i' k') →
      Q (.exit 14) ⟨List.toArray (u0 :: u1 :: (.pointer (some ⟨g2, 0, none⟩)) :: u3 :: u4 :: u5 :: (.pointer (some ⟨gs, 0, none⟩)) :: u7 :: u8 :: u9 :: u10 :: u11 :: u12 :: (.pointer (some ⟨g13, 0, none⟩)) :: (.int .i64 x) :: (.int .i64 i) :: x16 :: u17 :: u18 :: u19 :: u20 :: u21 :: u22 :: 
      u23 :: u24 :: u25 :: u26 :: u27 :: u28 :: u29 :: u30 :: u31 :: u32 :: u33 :: u34 :: u35 :: u36 :: u37 :: u38 :: u39 :: u40 :: u41 :: u42 :: u43 :: u44 :: u45 :: u46 :: u47 :: u48 :: u49 :: u50 :: u51 :: u52 :: u53 :: u54 :: u55 :: u56 :: u57 :: u58 :: u59 :: 
      u60 :: u61 :: u62 :: u63 :: u64 :: u65 :: u66 :: u67 :: u68 :: u69 :: u70 :: u71 :: u72 :: u73 :: u74 :: u75 :: u76 :: u77 :: u78 :: u79 :: u80 :: u81 :: u82 :: u83 :: u84 :: u85 :: u86 :: u87 :: u88 :: u89 :: u90 :: u91 :: u92 :: u93 :: u94 :: u95 :: u96 :: 
      u97 :: u98 :: u99 :: u100 :: u101 :: u102 :: u103 :: u104 :: u105 :: u106 :: u107 :: u108 :: u109 :: x110 :: x111 :: x112 :: x113 :: x114 :: x115 :: x116 :: x117 :: x118 :: x119 :: x120 :: x121 :: x122 :: x123 :: x124 :: x125 :: x126 :: x127 :: x128 :: x129 :: 
      x130 :: x131 :: x132 :: x133 :: x134 :: x135 :: x136 :: x137 :: x138 :: x139 :: x140 :: u141 :: u142 :: u143 :: u144 :: u145 :: u146 :: u147 :: u148 :: u149 :: u150 :: u151 :: u152 :: u153 :: u154 :: u155 :: u156 :: u157 :: u158 :: u159 :: u160 :: []), []⟩ w') :
    (Code.loop (loopBody Try.f76 7)).wp Try.prog Q ⟨List.toArray (u0 :: u1 :: (.pointer (some ⟨g2, 0, none⟩)) :: u3 :: u4 :: u5 :: (.pointer (some ⟨gs, 0, none⟩)) :: u7 :: u8 :: u9 :: u10 :: u11 :: u12 :: (.pointer (some ⟨g13, 0, none⟩)) :: (.int .i64 x) :: (.int .i64 i) :: (.int .i64 0) :: u17 :: u18 :: u19 :: u20 :: u21 :: 
      u22 :: u23 :: u24 :: u25 :: u26 :: u27 :: u28 :: u29 :: u30 :: u31 :: u32 :: u33 :: u34 :: u35 :: u36 :: u37 :: u38 :: u39 :: u40 :: u41 :: u42 :: u43 :: u44 :: u45 :: u46 :: u47 :: u48 :: u49 :: u50 :: u51 :: u52 :: u53 :: u54 :: u55 :: u56 :: u57 :: u58 :: 
      u59 :: u60 :: u61 :: u62 :: u63 :: u64 :: u65 :: u66 :: u67 :: u68 :: u69 :: u70 :: u71 :: u72 :: u73 :: u74 :: u75 :: u76 :: u77 :: u78 :: u79 :: u80 :: u81 :: u82 :: u83 :: u84 :: u85 :: u86 :: u87 :: u88 :: u89 :: u90 :: u91 :: u92 :: u93 :: u94 :: u95 :: 
      u96 :: u97 :: u98 :: u99 :: u100 :: u101 :: u102 :: u103 :: u104 :: u105 :: u106 :: u107 :: u108 :: u109 :: u110 :: u111 :: u112 :: u113 :: u114 :: u115 :: u116 :: u117 :: u118 :: u119 :: u120 :: u121 :: u122 :: u123 :: u124 :: u125 :: u126 :: u127 :: u128 :: 
      u129 :: u130 :: u131 :: u132 :: u133 :: u134 :: u135 :: u136 :: u137 :: u138 :: u139 :: u140 :: u141 :: u142 :: u143 :: u144 :: u145 :: u146 :: u147 :: u148 :: u149 :: u150 :: u151 :: u152 :: u153 :: u154 :: u155 :: u156 :: u157 :: u158 :: u159 :: u160 :: []), []⟩ w := by
  conv => arg 2; arg 1; whnf
  obtain ⟨hL1, hL8, hS64⟩ := hX.S64
  have hOO := hide hO
  have hEE := hide hE
  clear hO hE
  obtain ⟨gla, cla, gia, s, rfl, hls, -, -⟩ := hS.get hi
  have hls2 := hide hls
  clear hls
  go_loopw [16] (fun kk wr => ∃ (k : Nat) (br' : Nat → Nat → Nat → Nat), kk = .int .i64 (k : Int) ∧ k ≤ l.length ∧ SubT wB wr L l.length g13 gl ga gv cv gi ci gj lf br' ac ∧
    Hid (∀ x' i' k', x' < L → i' < l.length → k' < l.length → (x' < x ∨ x' = x ∧ i' < i ∨ x' = x ∧ i' = i ∧ k' < k) → br' x' i' k' = tabBr (brR S brs) l x' i' k')) (fun kk _ => l.length - (intOf kk).toNat)
  case atStart => exact ⟨0, br, rfl, Nat.zero_le _, hT, fun x' i' k' h1 h2 h3 h => hOO.out x' i' k' h1 h2 h3 (by omega)⟩
  case round =>
    obtain ⟨k, br', rfl, hk, hT', hO'⟩ := hrel
    have hSr := hS.call hT'.below
    have hcs := hSr.sets.blk.cell
    by_cases hlt : k < l.length
    · obtain ⟨gl1, cl1, gi1, s1, hv1, hls1, hci, hMi⟩ := hSr.get hi
      injection hv1 with hv1 _ hv3
      injection hv1 with hv1
      injection hv1 with hv1
      subst hv1 hv3
      have := hls2.out
      rw [this] at hls1
      injection hls1 with hls1
      subst hls1
      clear this
      obtain ⟨gl1, cl1, gk, u, hv1, hlu, hck, hMk⟩ := hSr.get hlt
      injection hv1 with hv1 _ hv3
      injection hv1 with hv1
      injection hv1 with hv1
      subst hv1 hv3
      have hc2 := (hX.at hSr.below).blk.cell
      have hc13 := hT'.b.cell
      have htc := hT'.t.topc x hx
      have hmc := (hT'.t.mid x hx).2 i hi
      have hMi2 := hide (hMi.keep0 ((Kept.refl wr (fun _ => False)).drew))
      have hMk2 := hide (hMk.keep0 ((Kept.refl wr (fun _ => False)).drew))
      have hSS := hide hSr.drew
      have hXX := hide (hX.at hSS.out.below)
      have hTd := hide hT'.drew
      have hm := hide (hEE.out.cl x i k s u hx hi hlt hls2.out hlu)
      have hv := hide (tabBr_eq (br := brR S brs) (x := x) hls2.out hlu)
      clear hlu hMi hMk
      go_wp2_with fail
      refine Reg.region_cut [0, 1, 0, 7, 15, 0, 63, 127, 0, 0, 0, 0, 2048, 0, 14336, 30720, 0, 65536, 0, 458752, 983040, 2096640, 4193792, 8388607, 16777215] [0, 1, 2, 3, 4, 5, 6, 7, 8, 9, 10, 11, 12, 13, 14, 15, 16, 17, 18, 19, 20, 21, 22, 23, 24] (by kernel_rfl) (by repeat (first | exact hN | refine Reg.NoQ.then ?_ | refine Reg.NoQ.inBlock ?_)) ?_
      refine Reg.rest_walkE [0, 1, 2, 3, 4, 5, 6, 7, 8, 9, 10, 11, 12, 13, 14, 15, 16, 17, 18, 19, 20] _ rfl rfl (by kernel_rfl) ?_
      intro Qf hQf
      go_wp2_with fail
      rw [List.filterMap_nil]
      go_wp2_with fail
      refine Reg.rest_act' 21 _ [1, 4, 7] rfl (by kernel_rfl) ?_
      intro Qf hQf
      simp only [List.getElem_toArray, List.getElem_cons_succ, List.getElem_cons_zero]
      go_wp2_with (go_at_call 82; refine Calls.ret (hXX.out.branch x hMi2.out hMk2.out) ?_; rintro r w4 ⟨hb4, hM4⟩)
      refine ⟨Reg.same_below hb4 [1, 4, 7] rfl, ?_⟩
      have hS4 := hide (hSS.out.call hb4)
      have hT4 := hide (hTd.out.call hb4)
      have hM44 := hide hM4
      clear hM4 hb4
      refine Reg.rest_act' 22 _ [1, 4, 7] rfl (by kernel_rfl) ?_
      intro Qf hQf
      simp only [List.getElem_toArray, List.getElem_cons_succ, List.getElem_cons_zero]
      go_wp2_with (go_at_call 106; refine Calls.ret (hS4.out.old hM44.out hS64 hl hm.out) ?_; rintro r w5 ⟨rfl, hb5⟩)
      refine ⟨Reg.same_below hb5 [1, 4, 7] rfl, ?_⟩
      have hT5 := hT4.out.call hb5
      have hR5 := hT5.t.row x hx i hi
      have hcr : w5.cell? ⟨gj x i, k, none⟩ = some (encN (br' x i k)) := by rw [hR5.cell, rangeC_get _ hlt]
      have hfr := hR5.frozen k
      have hlr := hR5.lt
      have hT6 := hide (hT5.setBr hx hi k (numL l (brR S brs x s u)))
      simp only [encN] at hcr
      clear hT5 hR5 hb5 hT'
      refine Reg.rest_walkE [23, 24] _ rfl rfl (by kernel_rfl) ?_
      intro Qf hQf
      go_wp2_with fail
      refine hQf _ _ (Reg.rest_end ?_)
      go_wp2_with fail
      refine ⟨⟨k + 1, _, by go_num, by omega, hT6.out, fun x' i' k' h1 h2 h3 h => ?_⟩, by simp [intOf]; omega⟩
      unfold up3
      split
      · rename_i e
        obtain ⟨rfl, rfl, rfl⟩ := e
        exact hv.out.symm
      · rename_i e
        exact hO'.out x' i' k' h1 h2 h3 (by omega)
    · obtain rfl : k = l.length := by omega
      go_wp2_with fail
      exact hQ _ _ _ _ _ _ _ _ _ _ _ _ _ _ _ _ _ _ _ _ _ _ _ _ _ _ _ _ _ _ _ _ wr br' hT' (fun x' i' k' h1 h2 h3 h => hO'.out x' i' k' h1 h2 h3 (by omega))
end Go.Proofs.Ytnimlcbgeiajiaa

namespace Go.Proofs.Ytnimlcbgeiajiaa
open Go.RowKit

set_option maxHeartbeats 8000000 in
set_option maxRecDepth 100000 in
theorem sub_fi {w2 wB w : World} {g2 L S gs g13 gl ga gv cv x : Nat} {gi ci : Nat → Nat} {gj : Nat → Nat → Nat} {va : Value} {us : List Value} {A1 A2 A3 : Option Addr} {c1 c2 c3 : Nat} {acc : List Int} {lv : List Leaf} {brs : List Branch} (hX : SubX w2 g2 L S A1 A2 A3 c1 c2 c3 acc lv brs)
    {l : List (List Bool)} (hS : SubS w2 wB S gs va us l) (hE : Expl L (leafR S lv) (brR S brs) l l.length) (hl : l.length ≤ 33000) (hx : x < L)
    {lf : Nat → Nat} {br : Nat → Nat → Nat → Nat} {ac : Nat → Bool} (hT : SubT wB w L l.length g13 gl ga gv cv gi ci gj lf br ac) (hO : ∀ x' i' k', x' < L → i' < l.length → k' < l.length → x' < x → br x' i' k' = tabBr (brR S brs) l x' i' k')
    {u0 u1 u3 u4 u5 u7 u8 u9 u10 u11 u12 u16 u17 u18 u19 u20 u21 u22 u23 u24 u25 u26 u27 u28 u29 u30 u31 u32 u33 u34 u35 u36 u37 u38 u39 u40 u41 u42 u43 u44 u45 u46 u47 u48 u49 u50 u51 u52 u53 u54 u55 u56 u57 u58 u59 u60 u61 u62 u63 u64 u65 u66 u67 u68 u69 u70 u71 u72 u73 u74 u75 u76 u77 u78 u79 u80 u81 u82 u83 u84 u85 u86 u87 u88 u89 u90 u91 u92 u93 u94 u95 u96 u97 u98 u99 u100 u101 u102 u103 u104 u105 u106 u107 u108 u109 u110 u111 u112 u113 u114 u115 u116 u117 u118 u119 u120 u121 u122 u123 u124 u125 u126 u127 u128 u129 u130 u131 u132 u133 u134 u135 u136 u137 u138 u139 u140 u141 u142 u143 u144 u145 u146 u147 u148 u149 u150 u151 u152 u153 u154 u155 u156 u157 u158 u159 u160 : Value}
    {Q : Exit → Act → World → Prop} (hN : Reg.NoQ Q)
    (hQ : ∀ (x15 x16 x103 x104 x105 x106 x107 x108 x109 x110 x111 x112 x113 x114 x115 x116 x117 x118 x119 x120 x121 x122 x123 x124 x125 x126 x127 x128 x129 x130 x131 x132 x133 x134 x135 x136 x137 x138 x139 x140 : Value) (w' : World) (br' : Nat → Nat → Nat → Nat), SubT wB w' L l.length g13 gl ga gv cv gi ci gj lf br' ac → (∀ x' i' k', x' < L → i' < l.length → k' < l.length → x' < x + 1 → br' x' i' k' = tabBr (brR S brs) l x' i' k') →
      Q (.exit 12) ⟨List.toArray (u0 :: u1 :: (.pointer (some ⟨g2, 0, none⟩)) :: u3 :: u4 :: u5 :: (.pointer (some ⟨gs, 0, none⟩)) :: u7 :: u8 :: u9 :: u10 :: u11 :: u12 :: (.pointer (some ⟨g13, 0, none⟩)) :: (.int .i64 x) :: x15 :: x16 :: u17 :: u18 :: u19 :: u20 :: u21 :: u22 :: u23 :: u24 :: 
      u25 :: u26 :: u27 :: u28 :: u29 :: u30 :: u31 :: u32 :: u33 :: u34 :: u35 :: u36 :: u37 :: u38 :: u39 :: u40 :: u41 :: u42 :: u43 :: u44 :: u45 :: u46 :: u47 :: u48 :: u49 :: u50 :: u51 :: u52 :: u53 :: u54 :: u55 :: u56 :: u57 :: u58 :: u59 :: u60 :: u61 :: 
      u62 :: u63 :: u64 :: u65 :: u66 :: u67 :: u68 :: u69 :: u70 :: u71 :: u72 :: u73 :: u74 :: u75 :: u76 :: u77 :: u78 :: u79 :: u80 :: u81 :: u82 :: u83 :: u84 :: u85 :: u86 :: u87 :: u88 :: u89 :: u90 :: u91 :: u92 :: u93 :: u94 :: u95 :: u96 :: u97 :: u98 :: 
      u99 :: u100 :: u101 :: u102 :: x103 :: x104 :: x105 :: x106 :: x107 :: x108 :: x109 :: x110 :: x111 :: x112 :: x113 :: x114 :: x115 :: x116 :: x117 :: x118 :: x119 :: x120 :: x121 :: x122 :: x123 :: x124 :: x125 :: x126 :: x127 :: x128 :: x129 :: x130 :: x131 :: 
      x132 :: x133 :: x134 :: x135 :: x136 :: x137 :: x138 :: x139 :: x140 :: u141 :: u142 :: u143 :: u144 :: u145 :: u146 :: u147 :: u148 :: u149 :: u150 :: u151 :: u152 :: u153 :: u154 :: u155 :: u156 :: u157 :: u158 :: u159 :: u160 :: []), []⟩ w') :
    (Code.loop (loopBody Try.f76 6)).wp Try.prog Q ⟨List.toArray (u0 :: u1 :: (.pointer (some ⟨g2, 0, none⟩)) :: u3 :: u4 :: u5 :: (.pointer (some ⟨gs, 0, none⟩)) :: u7 :: u8 :: u9 :: u10 :: u11 :: u12 :: (.pointer (some ⟨g13, 0, none⟩)) :: (.int .i64 x) :: (.int .i64 0) :: u16 :: u17 :: u18 :: u19 :: u20 :: u21 :: u22 :: 
      u23 :: u24 :: u25 :: u26 :: u27 :: u28 :: u29 :: u30 :: u31 :: u32 :: u33 :: u34 :: u35 :: u36 :: u37 :: u38 :: u39 :: u40 :: u41 :: u42 :: u43 :: u44 :: u45 :: u46 :: u47 :: u48 :: u49 :: u50 :: u51 :: u52 :: u53 :: u54 :: u55 :: u56 :: u57 :: u58 :: u59 :: 
      u60 :: u61 :: u62 :: u63 :: u64 :: u65 :: u66 :: u67 :: u68 :: u69 :: u70 :: u71 :: u72 :: u73 :: u74 :: u75 :: u76 :: u77 :: u78 :: u79 :: u80 :: u81 :: u82 :: u83 :: u84 :: u85 :: u86 :: u87 :: u88 :: u89 :: u90 :: u91 :: u92 :: u93 :: u94 :: u95 :: u96 :: 
      u97 :: u98 :: u99 :: u100 :: u101 :: u102 :: u103 :: u104 :: u105 :: u106 :: u107 :: u108 :: u109 :: u110 :: u111 :: u112 :: u113 :: u114 :: u115 :: u116 :: u117 :: u118 :: u119 :: u120 :: u121 :: u122 :: u123 :: u124 :: u125 :: u126 :: u127 :: u128 :: u129 :: 
      u130 :: u131 :: u132 :: u133 :: u134 :: u135 :: u136 :: u137 :: u138 :: u139 :: u140 :: u141 :: u142 :: u143 :: u144 :: u145 :: u146 :: u147 :: u148 :: u149 :: u150 :: u151 :: u152 :: u153 :: u154 :: u155 :: u156 :: u157 :: u158 :: u159 :: u160 :: []), []⟩ w := by
  conv => arg 2; arg 1; whnf
  have hOO := hide hO
  have hEE := hide hE
  clear hO hE
  obtain ⟨Av, cvv, rfl⟩ := slice_of_own hS.sets.own
  go_loopw [15] (fun ii wr => ∃ (i : Nat) (br' : Nat → Nat → Nat → Nat), ii = .int .i64 (i : Int) ∧ i ≤ l.length ∧ SubT wB wr L l.length g13 gl ga gv cv gi ci gj lf br' ac ∧
    Hid (∀ x' i' k', x' < L → i' < l.length → k' < l.length → (x' < x ∨ x' = x ∧ i' < i) → br' x' i' k' = tabBr (brR S brs) l x' i' k')) (fun ii _ => l.length - (intOf ii).toNat)
  case atStart => exact ⟨0, br, rfl, Nat.zero_le _, hT, fun x' i' k' h1 h2 h3 h => hOO.out x' i' k' h1 h2 h3 (by omega)⟩
  case round =>
    obtain ⟨i, br', rfl, hi, hT', hO'⟩ := hrel
    have hcs := (hS.call hT'.below).sets.blk.cell
    have hTT := hide hT'
    clear hT'
    by_cases hlt : i < l.length
    · go_wp2_with fail
      refine sub_fk hX hS hEE.out hl hx hlt hTT.out hO'.out ?_ ?_
      · repeat (first | exact hN | refine Reg.NoQ.then ?_ | refine Reg.NoQ.inBlock ?_)
      · iterate 32 (intro _)
        intro w3 br3 hT3 hO3
        have hTT3 := hide hT3
        have hOO3 := hide hO3
        clear hT3 hO3 hcs
        go_wp2_with fail
        exact ⟨⟨i + 1, br3, by go_num, by omega, hTT3.out, hOO3.out⟩, by simp [intOf]; omega⟩
    · obtain rfl : i = l.length := by omega
      go_wp2_with fail
      exact hQ _ _ _ _ _ _ _ _ _ _ _ _ _ _ _ _ _ _ _ _ _ _ _ _ _ _ _ _ _ _ _ _ _ _ _ _ _ _ _ _ wr br' hTT.out (fun x' i' k' h1 h2 h3 h => hO'.out x' i' k' h1 h2 h3 (by omega))

set_option maxHeartbeats 8000000 in
set_option maxRecDepth 100000 in
theorem sub_fx {w2 wB w : World} {g2 L S gs g13 gl ga gv cv : Nat} {gi ci : Nat → Nat} {gj : Nat → Nat → Nat} {va : Value} {us : List Value} {A1 A2 A3 : Option Addr} {c1 c2 c3 : Nat} {acc : List Int} {lv : List Leaf} {brs : List Branch} (hX : SubX w2 g2 L S A1 A2 A3 c1 c2 c3 acc lv brs)
    {l : List (List Bool)} (hS : SubS w2 wB S gs va us l) (hE : Expl L (leafR S lv) (brR S brs) l l.length) (hl : l.length ≤ 33000)
    {lf : Nat → Nat} {br : Nat → Nat → Nat → Nat} {ac : Nat → Bool} (hT : SubT wB w L l.length g13 gl ga gv cv gi ci gj lf br ac)
    {u0 u1 u3 u4 u5 u7 u8 u9 u10 u11 u12 u15 u16 u17 u18 u19 u20 u21 u22 u23 u24 u25 u26 u27 u28 u29 u30 u31 u32 u33 u34 u35 u36 u37 u38 u39 u40 u41 u42 u43 u44 u45 u46 u47 u48 u49 u50 u51 u52 u53 u54 u55 u56 u57 u58 u59 u60 u61 u62 u63 u64 u65 u66 u67 u68 u69 u70 u71 u72 u73 u74 u75 u76 u77 u78 u79 u80 u81 u82 u83 u84 u85 u86 u87 u88 u89 u90 u91 u92 u93 u94 u95 u96 u97 u98 u99 u100 u101 u102 u103 u104 u105 u106 u107 u108 u109 u110 u111 u112 u113 u114 u115 u116 u117 u118 u119 u120 u121 u122 u123 u124 u125 u126 u127 u128 u129 u130 u131 u132 u133 u134 u135 u136 u137 u138 u139 u140 u141 u142 u143 u144 u145 u146 u147 u148 u149 u150 u151 u152 u153 u154 u155 u156 u157 u158 u159 u160 : Value}
    {Q : Exit → Act → World → Prop} (hN : Reg.NoQ Q)
    (hQ : ∀ (x14 x15 x16 x89 x90 x91 x92 x93 x94 x95 x96 x97 x98 x99 x100 x101 x102 x103 x104 x105 x106 x107 x108 x109 x110 x111 x112 x113 x114 x115 x116 x117 x118 x119 x120 x121 x122 x123 x124 x125 x126 x127 x128 x129 x130 x131 x132 x133 x134 x135 x136 x137 x138 x139 x140 : Value) (w' : World) (lf' : Nat → Nat) (br' : Nat → Nat → Nat → Nat), SubT wB w' L l.length g13 gl ga gv cv gi ci gj lf' br' ac → (∀ x, x < L → lf' x = tabLf (leafR S lv) l x) → (∀ x' i' k', x' < L → i' < l.length → k' < l.length → br' x' i' k' = tabBr (brR S brs) l x' i' k') →
      Q (.exit 10) ⟨List.toArray (u0 :: u1 :: (.pointer (some ⟨g2, 0, none⟩)) :: u3 :: u4 :: u5 :: (.pointer (some ⟨gs, 0, none⟩)) :: u7 :: u8 :: u9 :: u10 :: u11 :: u12 :: (.pointer (some ⟨g13, 0, none⟩)) :: x14 :: x15 :: x16 :: u17 :: u18 :: u19 :: u20 :: u21 :: u22 :: u23 :: u24 :: u25 :: 
      u26 :: u27 :: u28 :: u29 :: u30 :: u31 :: u32 :: u33 :: u34 :: u35 :: u36 :: u37 :: u38 :: u39 :: u40 :: u41 :: u42 :: u43 :: u44 :: u45 :: u46 :: u47 :: u48 :: u49 :: u50 :: u51 :: u52 :: u53 :: u54 :: u55 :: u56 :: u57 :: u58 :: u59 :: u60 :: u61 :: u62 :: 
      u63 :: u64 :: u65 :: u66 :: u67 :: u68 :: u69 :: u70 :: u71 :: u72 :: u73 :: u74 :: u75 :: u76 :: u77 :: u78 :: u79 :: u80 :: u81 :: u82 :: u83 :: u84 :: u85 :: u86 :: u87 :: u88 :: x89 :: x90 :: x91 :: x92 :: x93 :: x94 :: x95 :: x96 :: x97 :: x98 :: x99 :: 
      x100 :: x101 :: x102 :: x103 :: x104 :: x105 :: x106 :: x107 :: x108 :: x109 :: x110 :: x111 :: x112 :: x113 :: x114 :: x115 :: x116 :: x117 :: x118 :: x119 :: x120 :: x121 :: x122 :: x123 :: x124 :: x125 :: x126 :: x127 :: x128 :: x129 :: x130 :: x131 :: x132 :: 
      x133 :: x134 :: x135 :: x136 :: x137 :: x138 :: x139 :: x140 :: u141 :: u142 :: u143 :: u144 :: u145 :: u146 :: u147 :: u148 :: u149 :: u150 :: u151 :: u152 :: u153 :: u154 :: u155 :: u156 :: u157 :: u158 :: u159 :: u160 :: []), []⟩ w') :
    (Code.loop (loopBody Try.f76 5)).wp Try.prog Q ⟨List.toArray (u0 :: u1 :: (.pointer (some ⟨g2, 0, none⟩)) :: u3 :: u4 :: u5 :: (.pointer (some ⟨gs, 0, none⟩)) :: u7 :: u8 :: u9 :: u10 :: u11 :: u12 :: (.pointer (some ⟨g13, 0, none⟩)) :: (.int .i64 0) :: u15 :: u16 :: u17 :: u18 :: u19 :: u20 :: u21 :: u22 :: u23 :: u24 :: 
      u25 :: u26 :: u27 :: u28 :: u29 :: u30 :: u31 :: u32 :: u33 :: u34 :: u35 :: u36 :: u37 :: u38 :: u39 :: u40 :: u41 :: u42 :: u43 :: u44 :: u45 :: u46 :: u47 :: u48 :: u49 :: u50 :: u51 :: u52 :: u53 :: u54 :: u55 :: u56 :: u57 :: u58 :: u59 :: u60 :: u61 :: 
      u62 :: u63 :: u64 :: u65 :: u66 :: u67 :: u68 :: u69 :: u70 :: u71 :: u72 :: u73 :: u74 :: u75 :: u76 :: u77 :: u78 :: u79 :: u80 :: u81 :: u82 :: u83 :: u84 :: u85 :: u86 :: u87 :: u88 :: u89 :: u90 :: u91 :: u92 :: u93 :: u94 :: u95 :: u96 :: u97 :: u98 :: 
      u99 :: u100 :: u101 :: u102 :: u103 :: u104 :: u105 :: u106 :: u107 :: u108 :: u109 :: u110 :: u111 :: u112 :: u113 :: u114 :: u115 :: u116 :: u117 :: u118 :: u119 :: u120 :: u121 :: u122 :: u123 :: u124 :: u125 :: u126 :: u127 :: u128 :: u129 :: u130 :: u131 :: 
      u132 :: u133 :: u134 :: u135 :: u136 :: u137 :: u138 :: u139 :: u140 :: u141 :: u142 :: u143 :: u144 :: u145 :: u146 :: u147 :: u148 :: u149 :: u150 :: u151 :: u152 :: u153 :: u154 :: u155 :: u156 :: u157 :: u158 :: u159 :: u160 :: []), []⟩ w := by
  conv => arg 2; arg 1; whnf
  obtain ⟨hL1, hL8, hS64⟩ := hX.S64
  have hEE := hide hE
  clear hE
  obtain ⟨Av, cvv, rfl⟩ := slice_of_own hS.sets.own
  go_loopw [14] (fun xx wr => ∃ (x : Nat) (lf' : Nat → Nat) (br' : Nat → Nat → Nat → Nat), xx = .int .i64 (x : Int) ∧ x ≤ L ∧ SubT wB wr L l.length g13 gl ga gv cv gi ci gj lf' br' ac ∧
    Hid (∀ x', x' < x → lf' x' = tabLf (leafR S lv) l x') ∧ Hid (∀ x' i' k', x' < L → i' < l.length → k' < l.length → x' < x → br' x' i' k' = tabBr (brR S brs) l x' i' k')) (fun xx _ => L - (intOf xx).toNat)
  case atStart => exact ⟨0, lf, br, rfl, Nat.zero_le _, hT, fun x' h => absurd h (by omega), fun x' i' k' h1 h2 h3 h => absurd h (by omega)⟩
  case round =>
    obtain ⟨x, lf', br', rfl, hx, hT', hF, hO'⟩ := hrel
    have hSr := hS.call hT'.below
    have hc2 := (hX.at hSr.below).blk.cell
    by_cases hlt : x < L
    · have hcs := hSr.sets.blk.cell
      have hc13 := hT'.b.cell
      have hSS := hide hSr.drew
      have hXX := hide (hX.at hSS.out.below)
      have hTd := hide hT'.drew
      have hm := hide (hEE.out.leaves x hlt)
      clear hT' hSr
      go_wp2_with fail
      refine Reg.region_cut [0, 1, 0, 0, 0, 24, 56, 127, 255] [0, 1, 2, 3, 4, 5, 6, 7, 8] (by kernel_rfl) (by repeat (first | exact hN | refine Reg.NoQ.then ?_ | refine Reg.NoQ.inBlock ?_)) ?_
      refine Reg.rest_walkE [0, 1, 2, 3, 4] _ rfl rfl (by kernel_rfl) ?_
      intro Qf hQf
      go_wp2_with fail
      rw [List.filterMap_nil]
      go_wp2_with fail
      refine Reg.rest_act' 5 _ [1] rfl (by kernel_rfl) ?_
      intro Qf hQf
      simp only [List.getElem_toArray, List.getElem_cons_succ, List.getElem_cons_zero]
      go_wp2_with (go_at_call 81; refine Calls.ret (hXX.out.leaf x) ?_; rintro r w4 ⟨hb4, hM4⟩)
      refine ⟨Reg.same_below hb4 [1] rfl, ?_⟩
      have hS4 := hide (hSS.out.call hb4)
      have hT4 := hide (hTd.out.call hb4)
      have hM44 := hide hM4
      clear hM4 hb4
      refine Reg.rest_act' 6 _ [1] rfl (by kernel_rfl) ?_
      intro Qf hQf
      simp only [List.getElem_toArray, List.getElem_cons_succ, List.getElem_cons_zero]
      go_wp2_with (go_at_call 106; refine Calls.ret (hS4.out.old hM44.out hS64 hl hm.out) ?_; rintro r w5 ⟨rfl, hb5⟩)
      refine ⟨Reg.same_below hb5 [1] rfl, ?_⟩
      have hT5 := hT4.out.call hb5
      have hcr : w5.cell? ⟨gl, x, none⟩ = some (encN (lf' x)) := by rw [hT5.t.leaf.cell, rangeC_get _ hlt]
      have hfr := hT5.t.leaf.frozen x
      have hlr := hT5.t.leaf.lt
      have hT6 := hide (hT5.setLeaf x (numL l (leafR S lv x)))
      simp only [encN] at hcr
      clear hT5 hb5 hc2 hc13 hcs
      refine Reg.rest_walkE [7, 8] _ rfl rfl (by kernel_rfl) ?_
      intro Qf hQf
      go_wp2_with fail
      refine hQf _ _ (Reg.rest_end ?_)
      go_wp2_with fail
      refine sub_fi hX hS hEE.out hl hlt hT6.out hO'.out ?_ ?_
      · repeat (first | exact hN | refine Reg.NoQ.then ?_ | refine Reg.NoQ.inBlock ?_)
      · iterate 40 (intro _)
        intro w3 br3 hT3 hO3
        have hTT3 := hide hT3
        have hOO3 := hide hO3
        clear hT3 hO3
        go_wp2_with fail
        refine ⟨⟨x + 1, _, br3, by go_num, by omega, hTT3.out, fun x' h => ?_, hOO3.out⟩, by simp [intOf]; omega⟩
        unfold up1
        split
        · rename_i e; rw [e]; rfl
        · exact hF.out x' (by omega)
    · obtain rfl : x = L := by omega
      go_wp2_with fail
      exact hQ _ _ _ _ _ _ _ _ _ _ _ _ _ _ _ _ _ _ _ _ _ _ _ _ _ _ _ _ _ _ _ _ _ _ _ _ _ _ _ _ _ _ _ _ _ _ _ _ _ _ _ _ _ _ _ wr lf' br' hT' hF.out (fun x' i' k' h1 h2 h3 => hO'.out x' i' k' h1 h2 h3 h1)

set_option maxHeartbeats 8000000 in
set_option maxRecDepth 100000 in
theorem sub_fa {w2 wB w : World} {g2 L S gs g13 gl ga gv cv : Nat} {gi ci : Nat → Nat} {gj : Nat → Nat → Nat} {va : Value} {us : List Value} {A1 A2 A3 : Option Addr} {c1 c2 c3 : Nat} {acc : List Int} {lv : List Leaf} {brs : List Branch} (hX : SubX w2 g2 L S A1 A2 A3 c1 c2 c3 acc lv brs)
    {l : List (List Bool)} (hS : SubS w2 wB S gs va us l) (hl : l.length ≤ 33000)
    {lf : Nat → Nat} {br : Nat → Nat → Nat → Nat} {ac : Nat → Bool} (hT : SubT wB w L l.length g13 gl ga gv cv gi ci gj lf br ac)
    {u0 u1 u3 u4 u5 u7 u8 u9 u10 u11 u12 u14 u15 u16 u18 u19 u20 u21 u22 u23 u24 u25 u26 u27 u28 u29 u30 u31 u32 u33 u34 u35 u36 u37 u38 u39 u40 u41 u42 u43 u44 u45 u46 u47 u48 u49 u50 u51 u52 u53 u54 u55 u56 u57 u58 u59 u60 u61 u62 u63 u64 u65 u66 u67 u68 u69 u70 u71 u72 u73 u74 u75 u76 u77 u78 u79 u80 u81 u82 u83 u84 u85 u86 u87 u88 u89 u90 u91 u92 u93 u94 u95 u96 u97 u98 u99 u100 u101 u102 u103 u104 u105 u106 u107 u108 u109 u110 u111 u112 u113 u114 u115 u116 u117 u118 u119 u120 u121 u122 u123 u124 u125 u126 u127 u128 u129 u130 u131 u132 u133 u134 u135 u136 u137 u138 u139 u140 u141 u142 u143 u144 u145 u146 u147 u148 u149 u150 u151 u152 u153 u154 u155 u156 u157 u158 u159 u160 : Value}
    {Q : Exit → Act → World → Prop} (hN : Reg.NoQ Q)
    (hQ : ∀ (x17 x141 x142 x143 x144 x145 x146 x147 x148 x149 x150 x151 x152 x153 x154 x155 x156 x157 x158 x159 : Value) (w' : World) (ac' : Nat → Bool), SubT wB w' L l.length g13 gl ga gv cv gi ci gj lf br ac' → (∀ q s, l[q]? = some s → ac' q = meetsR acc s) →
      Q (.exit 16) ⟨List.toArray (u0 :: u1 :: (.pointer (some ⟨g2, 0, none⟩)) :: u3 :: u4 :: u5 :: (.pointer (some ⟨gs, 0, none⟩)) :: u7 :: u8 :: u9 :: u10 :: u11 :: u12 :: (.pointer (some ⟨g13, 0, none⟩)) :: u14 :: u15 :: u16 :: x17 :: u18 :: u19 :: u20 :: u21 :: u22 :: u23 :: u24 :: u25 :: 
      u26 :: u27 :: u28 :: u29 :: u30 :: u31 :: u32 :: u33 :: u34 :: u35 :: u36 :: u37 :: u38 :: u39 :: u40 :: u41 :: u42 :: u43 :: u44 :: u45 :: u46 :: u47 :: u48 :: u49 :: u50 :: u51 :: u52 :: u53 :: u54 :: u55 :: u56 :: u57 :: u58 :: u59 :: u60 :: u61 :: u62 :: 
      u63 :: u64 :: u65 :: u66 :: u67 :: u68 :: u69 :: u70 :: u71 :: u72 :: u73 :: u74 :: u75 :: u76 :: u77 :: u78 :: u79 :: u80 :: u81 :: u82 :: u83 :: u84 :: u85 :: u86 :: u87 :: u88 :: u89 :: u90 :: u91 :: u92 :: u93 :: u94 :: u95 :: u96 :: u97 :: u98 :: u99 :: 
      u100 :: u101 :: u102 :: u103 :: u104 :: u105 :: u106 :: u107 :: u108 :: u109 :: u110 :: u111 :: u112 :: u113 :: u114 :: u115 :: u116 :: u117 :: u118 :: u119 :: u120 :: u121 :: u122 :: u123 :: u124 :: u125 :: u126 :: u127 :: u128 :: u129 :: u130 :: u131 :: u132 :: 
      u133 :: u134 :: u135 :: u136 :: u137 :: u138 :: u139 :: u140 :: x141 :: x142 :: x143 :: x144 :: x145 :: x146 :: x147 :: x148 :: x149 :: x150 :: x151 :: x152 :: x153 :: x154 :: x155 :: x156 :: x157 :: x158 :: x159 :: u160 :: []), []⟩ w') :
    (Code.loop (loopBody Try.f76 8)).wp Try.prog Q ⟨List.toArray (u0 :: u1 :: (.pointer (some ⟨g2, 0, none⟩)) :: u3 :: u4 :: u5 :: (.pointer (some ⟨gs, 0, none⟩)) :: u7 :: u8 :: u9 :: u10 :: u11 :: u12 :: (.pointer (some ⟨g13, 0, none⟩)) :: u14 :: u15 :: u16 :: (.int .i64 0) :: u18 :: u19 :: u20 :: u21 :: u22 :: u23 :: u24 :: 
      u25 :: u26 :: u27 :: u28 :: u29 :: u30 :: u31 :: u32 :: u33 :: u34 :: u35 :: u36 :: u37 :: u38 :: u39 :: u40 :: u41 :: u42 :: u43 :: u44 :: u45 :: u46 :: u47 :: u48 :: u49 :: u50 :: u51 :: u52 :: u53 :: u54 :: u55 :: u56 :: u57 :: u58 :: u59 :: u60 :: u61 :: 
      u62 :: u63 :: u64 :: u65 :: u66 :: u67 :: u68 :: u69 :: u70 :: u71 :: u72 :: u73 :: u74 :: u75 :: u76 :: u77 :: u78 :: u79 :: u80 :: u81 :: u82 :: u83 :: u84 :: u85 :: u86 :: u87 :: u88 :: u89 :: u90 :: u91 :: u92 :: u93 :: u94 :: u95 :: u96 :: u97 :: u98 :: 
      u99 :: u100 :: u101 :: u102 :: u103 :: u104 :: u105 :: u106 :: u107 :: u108 :: u109 :: u110 :: u111 :: u112 :: u113 :: u114 :: u115 :: u116 :: u117 :: u118 :: u119 :: u120 :: u121 :: u122 :: u123 :: u124 :: u125 :: u126 :: u127 :: u128 :: u129 :: u130 :: u131 :: 
      u132 :: u133 :: u134 :: u135 :: u136 :: u137 :: u138 :: u139 :: u140 :: u141 :: u142 :: u143 :: u144 :: u145 :: u146 :: u147 :: u148 :: u149 :: u150 :: u151 :: u152 :: u153 :: u154 :: u155 :: u156 :: u157 :: u158 :: u159 :: u160 :: []), []⟩ w := by
  conv => arg 2; arg 1; whnf
  have hvv := hX.valid
  simp only [TA.fit5, TA.head5, Bool.and_eq_true] at hvv
  have hva := hide hvv.1.1.2
  clear hvv
  obtain ⟨Av, cvv, rfl⟩ := slice_of_own hS.sets.own
  go_loopw [17] (fun qq wr => ∃ (q : Nat) (ac' : Nat → Bool), qq = .int .i64 (q : Int) ∧ q ≤ l.length ∧ SubT wB wr L l.length g13 gl ga gv cv gi ci gj lf br ac' ∧
    Hid (∀ q' s, q' < q → l[q']? = some s → ac' q' = meetsR acc s)) (fun qq _ => l.length - (intOf qq).toNat)
  case atStart => exact ⟨0, ac, rfl, Nat.zero_le _, hT, fun q' s h => absurd h (by omega)⟩
  case round =>
    obtain ⟨q, ac', rfl, hq, hT', hF⟩ := hrel
    have hSr := hS.call hT'.below
    have hcs := hSr.sets.blk.cell
    by_cases hlt : q < l.length
    · obtain ⟨gl1, cl1, gi1, s, hv1, hls, hci, hMi⟩ := hSr.get hlt
      injection hv1 with hv1 hv2 hv3
      subst hv1 hv3
      have hXr := hX.at hSr.below
      have hc2 := hXr.blk.cell
      have hc13 := hT'.b.cell
      have hMi2 := hide (hMi.keep0 ((Kept.refl wr (fun _ => False)).drew))
      have hTd := hide hT'.drew
      obtain ⟨B1, d1, B2, d2, B3, d3, hv, s1, -, -⟩ := hXr.ta
      injection hv with hv
      simp only [Array.mk.injEq, List.cons.injEq, Value.slice.injEq, true_and, and_true] at hv
      obtain ⟨⟨e1, e2⟩, -⟩ := hv
      subst e1 e2
      have hs1 := hide (Sl.below (w' := wr.drew) s1 (drew_below wr))
      have hlsH := hide hls
      clear s1 hls hMi hT'
      go_wp2_with fail
      refine Reg.region_cut [0, 1, 0, 0, 8, 0, 56, 120, 0, 256, 1016, 2047, 4095] [0, 1, 2, 3, 4, 5, 6, 7, 8, 9, 10, 11, 12] (by kernel_rfl) (by repeat (first | exact hN | refine Reg.NoQ.then ?_ | refine Reg.NoQ.inBlock ?_)) ?_
      refine Reg.rest_walkE [0, 1, 2, 3, 4, 5, 6, 7, 8, 9] _ rfl rfl (by kernel_rfl) ?_
      intro Qf hQf
      go_wp2_with fail
      rw [List.filterMap_nil]
      go_wp2_with fail
      refine Reg.rest_act' 10 _ [1] rfl (by kernel_rfl) ?_
      intro Qf hQf
      simp only [List.getElem_toArray, List.getElem_cons_succ, List.getElem_cons_zero]
      go_wp2_with (go_at_call 83; refine (refMeets_any hMi2.out hs1.out hva.out).mono ?_; rintro e w4 ⟨rfl, rfl⟩)
      refine ⟨Reg.same_below (Below.refl _ _) [1] rfl, ?_⟩
      have hT5 := hTd.out
      have hcr : wr.drew.cell? ⟨ga, q, none⟩ = some (.bool (ac' q)) := by rw [hT5.t.acc.cell, rangeC_get _ hlt]
      have hfr := hT5.t.acc.frozen q
      have hlr := hT5.t.acc.lt
      have hT6 := hide (hT5.setAcc q (meetsR acc s))
      clear hT5
      refine Reg.rest_walkE [11, 12] _ rfl rfl (by kernel_rfl) ?_
      intro Qf hQf
      go_wp2_with fail
      refine hQf _ _ (Reg.rest_end ?_)
      go_wp2_with fail
      refine ⟨⟨q + 1, _, by go_num, by omega, hT6.out, fun q' s' h hs' => ?_⟩, by simp [intOf]; omega⟩
      unfold up1
      split
      · rename_i e
        subst e
        rw [hlsH.out] at hs'
        injection hs' with hs'
        rw [hs']
      · exact hF.out q' s' (by omega) hs'
    · obtain rfl : q = l.length := by omega
      go_wp2_with fail
      exact hQ _ _ _ _ _ _ _ _ _ _ _ _ _ _ _ _ _ _ _ _ wr ac' hT' (fun q s hs => hF.out q s (lt_of_get hs) hs)
end Go.Proofs.Ytnimlcbgeiajiaa

namespace Go.Proofs.Ytnimlcbgeiajiaa
open Go.RowKit

theorem TblF.congr {w : World} {L n : Nat} {vl vb va : Value} {lf lf' : Nat → Nat} {br br' : Nat → Nat → Nat → Nat} {ac ac' : Nat → Bool} (h : TblF w L n vl vb va lf br ac) (h1 : ∀ x, x < L → lf x = lf' x) (h2 : ∀ x i k, x < L → i < n → k < n → br x i k = br' x i k) (h3 : ∀ q, q < n → ac q = ac' q) : TblF w L n vl vb va lf' br' ac' := by
  obtain ⟨⟨g, cc, e, hl⟩, ⟨g2, c2, e2, ha⟩, gv, cv, gi, ci, gj, cj, e3, ht⟩ := h
  exact ⟨⟨g, cc, e, fun x hx => by rw [hl x hx, h1 x hx]⟩, ⟨g2, c2, e2, fun q hq => by rw [ha q hq, h3 q hq]⟩, gv, cv, gi, ci, gj, cj, e3, fun x hx => ⟨(ht x hx).1, fun i hi => ⟨((ht x hx).2 i hi).1, fun k hk => by rw [((ht x hx).2 i hi).2 k hk, h2 x i k hx hi hk]⟩⟩⟩

/-- What subsets returns. -/
def SubRes (w' : World) (L S : Nat) (m : Int) (acc : List Int) (lv : List Leaf) (brs : List Branch) (r : Value) : Prop :=
  (m = 64 ∧ r = .tuple #[.agg #[.int .i64 0, .slice none 0 0, .slice none 0 0, .slice none 0 0], .bool false] ∧ ∃ l : List (List Bool), l.Nodup ∧ (∀ s ∈ l, Reach L (leafR S lv) (brR S brs) s) ∧ 64 < l.length) ∨
  ∃ l vl vb va, r = .tuple #[.agg #[.int .i64 (L : Int), vl, vb, va], .bool true] ∧ Expl L (leafR S lv) (brR S brs) l l.length ∧ (m = 64 → l.length ≤ 64) ∧ l.length ≤ 20000 ∧
    TblF w' L l.length vl vb va (tabLf (leafR S lv) l) (tabBr (brR S brs) l) (macc (l.map (meetsR acc)))

set_option maxHeartbeats 8000000 in
set_option maxRecDepth 100000 in
theorem subsets_any {w : World} {L S : Nat} {m : Int} {v : Value} {acc : List Int} {lv : List Leaf} {brs : List Branch} (h : IsTA w w.heap.size v ⟨(L : Int), (S : Int), acc, lv, brs⟩) (hv : TA.fit5 ⟨(L : Int), (S : Int), acc, lv, brs⟩ = true) (hm : CapM m L S lv brs) :
    Calls Try.prog 76 #[v, .int .i64 m] w (Ret fun r w' => Below w.heap.size w w' ∧ SubRes w' L S m acc lv brs r) := by
  obtain ⟨A1, c1, A2, c2, A3, c3, rfl, h1, h2, h3⟩ := h
  obtain ⟨w1, hw1, hb1, hB1, hk1⟩ := box_blk w #[.int .i64 (L : Int), .int .i64 (S : Int), .slice A1 acc.length c1, .slice A2 lv.length c2, .slice A3 brs.length c3] 26
  obtain ⟨w2, hw2, hb2, hB2, hk2⟩ := box_blk w1 #[.int .i64 0, .slice none 0 0, .slice none 0 0, .slice none 0 0] 84
  obtain ⟨w3, hw3, hb3, hB3, hk3⟩ := box_blk w2 #[.slice none 0 0] 145
  have hsz1 := hb1.size
  have hsz2 := hb2.size
  have hsz3 := hb3.size
  have hb02 := hb1.trans (hb2.mono hsz1)
  have hX : SubX w2 w.heap.size L S A1 A2 A3 c1 c2 c3 acc lv brs :=
    ⟨IsTA.keep (B := w.heap.size) ⟨A1, c1, A2, c2, A3, c3, rfl, h1, h2, h3⟩ (fun _ hp => hb02.cell hp) (by omega), hv, hB1.below hb2⟩
  have hS0 : SubS w2 w3 S w2.heap.size (.slice none 0 0) [] [] := ⟨hb3, ⟨hB3, rfl, own_nil, fun i u m' h => by simp at h⟩, Nat.le_refl _⟩
  obtain ⟨hL1, hL8, hS64⟩ := hX.S64
  have hXX := hide hX
  have hSS0 := hide hS0
  have hlt1 := hB2.lt
  clear h1 h2 h3 hS0 hX hv
  go_enter Try.func76, Try.ntmps76
  go_wp2_with fail
  refine sub_leaves hXX.out hSS0.out ?_
  iterate 11 (intro _)
  intro w4 va4 us4 l4 hS4 hE4 hl4
  have hSS4 := hide hS4
  have hEE4 := hide hE4
  clear hS4 hE4
  go_wp2_with fail
  refine sub_rounds hXX.out hm hB2 (by omega) hSS4.out hEE4.out ?_ ?_ ?_
  · repeat (first | exact Reg.NoQ.body (fun _ _ h => h) (fun _ h => h) | refine Reg.NoQ.then ?_ | refine Reg.NoQ.inBlock ?_)
  · iterate 61 (intro _)
    intro w5 va5 us5 l5 hS5 hE5 h64 hl5
    have hl20 : l5.length ≤ 20000 := by
      rcases hm with e | ⟨-, hc⟩
      · have := h64 e; omega
      · exact hc l5 hE5.nodup hE5.reach
    have hl1 : 1 ≤ l5.length := List.length_pos_of_mem (hE5.leaves 0 (by omega))
    have hSS5 := hide hS5
    have hEE5 := hide hE5
    have h64H := hide h64
    obtain ⟨Av, cvv, rfl⟩ := slice_of_own hS5.sets.own
    have hcs := hS5.sets.blk.cell
    have hc2 := (hXX.out.at hS5.below).blk.cell
    have hmm := hide hm
    clear hS5 hE5 h64 hm
    go_wp2_with (go_at_call 84; refine Calls.ret (blank_any hL8 hL1 hl20 hl1) ?_; rintro v6 w6 ⟨hb6, gl, ga, gv, cv, gi, ci, gj, rfl, hT6⟩
                 obtain ⟨w7, hw7, hb7, hB7, hk7⟩ := box_blk w6 #[.int .i64 0, .slice none 0 0, .slice none 0 0, .slice none 0 0] 84
                 have hc7 := hB7.cell
                 have hf7 := hB7.frozen
                 have hl7 := hB7.lt
                 have hb66 := hide hb6
                 have hTT6 := hide hT6
                 clear hb6 hT6 hcs hc2)
    obtain ⟨w8, hw8, hg8, hk8⟩ := set4t_facts hB7 (.int .i64 (L : Int)) (.slice (some ⟨gl, 0, none⟩) L L) (.slice (some ⟨gv, 0, none⟩) L cv) (.slice (some ⟨ga, 0, none⟩) l5.length l5.length)
    have hb68 : Below w6.heap.size w6 w8 := hb7.trans (hk8.below hb7.size fun b hb e => by omega)
    have hT8 : SubT w5 w8 L l5.length w6.heap.size gl ga gv cv gi ci gj (fun _ => 0) (fun _ _ _ => 0) (fun _ => false) := ⟨hb66.out.trans (hb68.mono hb66.out.size), hTT6.out.below hb68, hg8, hb66.out.size⟩
    have hTT8 := hide hT8
    rw [← hw8] at hTT8
    clear hT8 hg8 hk8 hb68 hw8 hc7 hf7 hl7
    refine sub_fx hXX.out hSS5.out hEE5.out hl5 hTT8.out ?_ ?_
    · repeat (first | exact Reg.NoQ.body (fun _ _ h => h) (fun _ h => h) | refine Reg.NoQ.then ?_ | refine Reg.NoQ.inBlock ?_)
    · iterate 55 (intro _)
      intro w9 lf9 br9 hT9 hlf hbr
      have hTT9 := hide hT9
      have hlfH := hide hlf
      have hbrH := hide hbr
      clear hT9 hlf hbr hTT8
      go_wp2_with fail
      refine sub_fa hXX.out hSS5.out hl5 hTT9.out ?_ ?_
      · repeat (first | exact Reg.NoQ.body (fun _ _ h => h) (fun _ h => h) | refine Reg.NoQ.then ?_ | refine Reg.NoQ.inBlock ?_)
      · iterate 20 (intro _)
        intro wa ac hTa hac
        have hbb := hSS5.out.below
        have hb2a : Below w2.heap.size w2 wa := hbb.trans (hTa.below.mono hbb.size)
        have hcT := hTa.b.cell
        have hB4 := hB2.below hb2a
        have hc4 := hB4.cell
        have hf4 := hB4.frozen
        have hl4 := hB4.lt
        have hTTa := hide hTa
        have hacH := hide hac
        have hb2aH := hide hb2a
        clear hTa hac hbb hb2a
        go_wp2_with fail
        obtain ⟨wF, hwF, hgF, hkF⟩ := set4t_facts hB4 (.int .i64 (L : Int)) (.slice (some ⟨gl, 0, none⟩) L L) (.slice (some ⟨gv, 0, none⟩) L cv) (.slice (some ⟨ga, 0, none⟩) l5.length l5.length)
        change bodyPost _ _ _ _ _ (set4t wa w1.heap.size (.int .i64 (L : Int)) (.slice (some ⟨gl, 0, none⟩) L L) (.slice (some ⟨gv, 0, none⟩) L cv) (.slice (some ⟨ga, 0, none⟩) l5.length l5.length))
        rw [hwF]
        have hcF := hgF.cell
        have hsa := hb2aH.out.size
        have hs5 := hSS5.out.below.size
        refine bodyPost_ret (v := .tuple #[.agg #[.int .i64 (L : Int), .slice (some ⟨gl, 0, none⟩) L L, .slice (some ⟨gv, 0, none⟩) L cv, .slice (some ⟨ga, 0, none⟩) l5.length l5.length], .bool true]) (by simp [results, Try.results76, go_sem, hcF]) rfl
          ⟨(hb02.trans (hb2aH.out.mono (by omega))).trans (hkF.below (by omega) fun b hb e => by omega), .inr ⟨l5, _, _, _, rfl, hEE5.out, h64H.out, hl20, ?_⟩⟩
        have hT2 := hTTa.out.t.keep hkF (fun k e => by omega)
        exact hT2.read.congr hlfH.out hbrH.out fun q hq => by
          obtain ⟨s, hs⟩ := get_lt hq
          rw [hacH.out q s hs]
          exact (getD_some (map_get hs)).symm
  · iterate 60 (intro _)
    intro w5 l5 hb5 hm64 h64 hnd hR
    have hB4 := hB2.below hb5
    obtain ⟨wF, hwF, hgF, hkF⟩ := set4t_facts hB4 (.int .i64 0) (.slice none 0 0) (.slice none 0 0) (.slice none 0 0)
    rw [hwF]
    have hcF := hgF.cell
    have hs5 := hb5.size
    have hbb := hide ((hb02.trans (hb5.mono (by omega))).trans (hkF.below (by omega) fun b hb e => by omega))
    have hNN := hide hnd
    have hRR := hide hR
    have hm6 := hide hm64
    clear hnd hR hb5 hm64 hm
    go_wp2_with fail
    exact bodyPost_ret (v := .tuple #[.agg #[.int .i64 0, .slice none 0 0, .slice none 0 0, .slice none 0 0], .bool false]) (by simp [results, Try.results76, go_sem, hcF]) rfl ⟨hbb.out, .inl ⟨hm6.out, rfl, l5, hNN.out, hRR.out, h64⟩⟩
end Go.Proofs.Ytnimlcbgeiajiaa
