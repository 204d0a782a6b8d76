/-
  The reference's both: its results are written, in whatever order.
  The reference's both: the walk.
  The reference's empty over a table; the region of Included.
-/
import Derived.Test.YtnimlcbgeiajiaaQJ
import Derived.Test.YtnimlcbgeiajiaaSR
import Derived.Test.YtnimlcbgeiajiaaSV
import Derived.Test.YtnimlcbgeiajiaaQW

namespace Go.Proofs.Ytnimlcbgeiajiaa
open Go.RowKit

namespace Reg
theorem same_loadS {P : Program} {ops : Array Oper} {q : Oper} {b : Act} {w w' : World} {ty : TypeId} {x : Operand} {g o : Nat} {cs : List Value} {d : TypeDesc} (ho : q.op = .load ty x) (hx : b.eval x = .pointer (some ⟨g, o, none⟩))
    (hc : w.rangeAt g o cs) (hc' : w'.rangeAt g o cs) (hu : P.underlying ty = some d) (hd : d.isRow = true) (hi : (P.info? ty).map (·.size) = some cs.length) : Same P ops q b w w' := by
  intro _ v hv
  obtain ⟨dst, op, type, pos, after, guard⟩ := q
  dsimp only at ho
  subst ho
  have e : ∀ w1 : World, w1.rangeAt g o cs → (execOp b.eval { dst, op := .load ty x, type, pos, after, guard }).run P w1 = .ok (.value (.agg cs.toArray)) w1 := fun w1 h => by
    show ((Instr.loadAt ty (b.eval x)) >>= fun v => (Pure.pure (Next.value v) : Sem Next)).run P w1 = _
    rw [hx]
    exact run_value (run_loadAt_mid w1 g o ty cs d h hu hd hi)
  rw [e w hc] at hv
  injection hv with hv _
  rw [← hv]
  exact e w' hc'
end Reg
theorem Blk.rangeS {w : World} {g : Nat} {t : TypeId} {cs : Array Value} (h : Blk w g t cs) : w.rangeAt g 0 cs.toList := fun j v hv => by
  rw [Nat.zero_add, h.cell]
  simpa using hv

set_option maxHeartbeats 4000000 in
set_option maxRecDepth 100000 in
theorem both_out2 {w : World} {gA gB g4 g5 : Nat} {i0 i1 j0 j1 : Int} {A2 A3 A4 B2 B3 B4 : Option Addr} {n2 n3 n4 p2 p3 p4 m2 m3 m4 d2 d3 d4 : Nat} {z0 z1 z2 z3 z4 u0' u1' u2' u3' u4' : Value} (bA : Blk w gA 26 #[.int .i64 i0, .int .i64 i1, .slice A2 n2 p2, .slice A3 n3 p3, .slice A4 n4 p4]) (bB : Blk w gB 26 #[.int .i64 j0, .int .i64 j1, .slice B2 m2 d2, .slice B3 m3 d3, .slice B4 m4 d4]) (b4 : Blk w g4 26 #[z0, z1, z2, z3, z4]) (b5 : Blk w g5 26 #[u0', u1', u2', u3', u4'])
    (nB : gB ≠ g4) (n5 : g5 ≠ g4)
    {u0 u1 u6 u7 u8 u9 u10 u11 u12 u13 u14 u15 u16 u17 u18 u19 u20 u21 u22 u23 u24 u25 u26 u27 u28 u29 u30 u31 u32 u33 u34 u35 u36 u37 u38 u39 u40 u41 u42 u43 u44 : Value}
    {Q : Exit → Act → World → Prop} (hN : Reg.NoQ Q)
    (hQ : ∀ (x25 x26 : Value) (w' : World), Kept w w' (fun k => k = g4 ∨ k = g5) → Blk w' g4 26 #[.int .i64 i0, .int .i64 i1, .slice A2 n2 p2, .slice A3 n3 p3, .slice A4 n4 p4] → Blk w' g5 26 #[.int .i64 j0, .int .i64 j1, .slice B2 m2 d2, .slice B3 m3 d3, .slice B4 m4 d4] → Q .normal ⟨List.toArray (u0 :: u1 :: (.pointer (some ⟨gA, 0, none⟩)) :: (.pointer (some ⟨gB, 0, none⟩)) :: (.pointer (some ⟨g4, 0, none⟩)) :: (.pointer (some ⟨g5, 0, none⟩)) :: (.int .i64 1) :: u7 :: u8 :: u9 :: u10 :: u11 :: u12 :: u13 :: u14 :: u15 :: u16 :: u17 :: u18 :: u19 :: u20 :: 
      u21 :: u22 :: u23 :: u24 :: x25 :: x26 :: u27 :: u28 :: u29 :: u30 :: u31 :: u32 :: u33 :: u34 :: u35 :: u36 :: u37 :: u38 :: u39 :: u40 :: u41 :: u42 :: u43 :: u44 :: []), []⟩ w') :
    (regionAt Try.f69 2).wp Try.prog Q ⟨List.toArray (u0 :: u1 :: (.pointer (some ⟨gA, 0, none⟩)) :: (.pointer (some ⟨gB, 0, none⟩)) :: (.pointer (some ⟨g4, 0, none⟩)) :: (.pointer (some ⟨g5, 0, none⟩)) :: u6 :: u7 :: u8 :: u9 :: u10 :: u11 :: u12 :: u13 :: u14 :: u15 :: u16 :: u17 :: u18 :: u19 :: u20 :: u21 :: 
      u22 :: u23 :: u24 :: u25 :: u26 :: u27 :: u28 :: u29 :: u30 :: u31 :: u32 :: u33 :: u34 :: u35 :: u36 :: u37 :: u38 :: u39 :: u40 :: u41 :: u42 :: u43 :: u44 :: []), []⟩ w := by
  conv => arg 2; whnf
  have bAd : Blk w.drew gA 26 #[.int .i64 i0, .int .i64 i1, .slice A2 n2 p2, .slice A3 n3 p3, .slice A4 n4 p4] := bA
  have bBd : Blk w.drew gB 26 #[.int .i64 j0, .int .i64 j1, .slice B2 m2 d2, .slice B3 m3 d3, .slice B4 m4 d4] := bB
  have b4d : Blk w.drew g4 26 #[z0, z1, z2, z3, z4] := b4
  have b5d : Blk w.drew g5 26 #[u0', u1', u2', u3', u4'] := b5
  have hkd : Kept w w.drew (fun k => k = g4 ∨ k = g5) := (Kept.refl w _).drew
  obtain ⟨wd, hwd⟩ : ∃ wd, w.drew = wd := ⟨_, rfl⟩
  refine Reg.region_cut [0, 0, 1, 7, 15] [0, 1, 2, 3, 4] (by kernel_rfl) hN ?_
  rw [hwd] at bAd bBd b4d b5d hkd ⊢
  clear hwd bA bB b4 b5
  obtain ⟨wA, hwA, b4A, hkA⟩ := set5_facts b4d (.int .i64 i0) (.int .i64 i1) (.slice A2 n2 p2) (.slice A3 n3 p3) (.slice A4 n4 p4)
  have bBA := bBd.kept hkA nB
  have b5A := b5d.kept hkA n5
  obtain ⟨wB, hwB, b5B, hkB⟩ := set5_facts b5A (.int .i64 j0) (.int .i64 j1) (.slice B2 m2 d2) (.slice B3 m3 d3) (.slice B4 m4 d4)
  have b4B := b4A.kept hkB (fun e => n5 e.symm)
  have hwA' := hwA
  have hwB' := hwB
  simp only [set5] at hwA' hwB'
  have cA := bAd.cell
  have cB := bBd.cell
  have c4 := b4d.cell
  have f4 := b4d.frozen
  have l4 := b4d.lt
  have hfin := hide (show Kept w wB (fun k => k = g4 ∨ k = g5) ∧ Blk wB g4 26 #[.int .i64 i0, .int .i64 i1, .slice A2 n2 p2, .slice A3 n3 p3, .slice A4 n4 p4] ∧ Blk wB g5 26 #[.int .i64 j0, .int .i64 j1, .slice B2 m2 d2, .slice B3 m3 d3, .slice B4 m4 d4] from ⟨(hkd.trans hkA (fun b _ e => .inl e)).trans hkB (fun b _ e => .inr e), b4B, b5B⟩)
  have rB := hide bBd
  have rBA := hide bBA
  clear hwA hwB bAd bBd b4d b5d bBA b4A b4B b5B hkd hkA hkB
  refine Reg.rest_walkE [0, 1] _ rfl rfl (by kernel_rfl) ?_
  intro Qf hQf
  go_wp2_with fail
  try (rw [List.filterMap_nil]; go_wp2_with fail)
  refine Reg.rest_act' 2 _ [1] rfl (by kernel_rfl) ?_
  intro Qf hQf
  simp only [List.getElem_toArray, List.getElem_cons_succ, List.getElem_cons_zero]
  go_wp2_with fail
  refine ⟨?_, ?_⟩
  · intro zz hz qo hqo
    simp only [List.mem_cons, List.not_mem_nil, or_false] at hz
    subst hz
    injection hqo with hqo
    subst hqo
    exact Reg.same_loadS rfl rfl rB.out.rangeS rBA.out.rangeS Try.underlying26 rfl (by kernel_rfl)
  · have c5 := b5A.cell
    have f5 := b5A.frozen
    have l5 := b5A.lt
    clear cA cB c4 f4 l4
    refine Reg.rest_walkE [3, 4] _ rfl rfl (by kernel_rfl) ?_
    intro Qf hQf
    go_wp2_with fail
    refine hQf _ _ (Reg.rest_end ?_)
    exact hQ _ _ wB hfin.out.1 hfin.out.2.1 hfin.out.2.2

set_option maxHeartbeats 4000000 in
set_option maxRecDepth 100000 in
theorem both_out5 {w : World} {gA gB g4 g5 : Nat} {e : Int} {i0 i1 j0 j1 : Int} {A2 A3 A4 B2 B3 B4 : Option Addr} {n2 n3 n4 p2 p3 p4 m2 m3 m4 d2 d3 d4 : Nat} {z0 z1 z2 z3 z4 u0' u1' u2' u3' u4' : Value} (bA : Blk w gA 26 #[.int .i64 i0, .int .i64 i1, .slice A2 n2 p2, .slice A3 n3 p3, .slice A4 n4 p4]) (bB : Blk w gB 26 #[.int .i64 j0, .int .i64 j1, .slice B2 m2 d2, .slice B3 m3 d3, .slice B4 m4 d4]) (b4 : Blk w g4 26 #[z0, z1, z2, z3, z4]) (b5 : Blk w g5 26 #[u0', u1', u2', u3', u4'])
    (nB : gB ≠ g4) (n5 : g5 ≠ g4)
    {u0 u1 u6 u7 u9 u10 u11 u12 u13 u14 u15 u16 u17 u18 u19 u20 u21 u22 u23 u24 u25 u26 u27 u28 u29 u30 u31 u32 u33 u34 u35 u36 u37 u38 u39 u40 u41 u42 u43 u44 : Value}
    {Q : Exit → Act → World → Prop} (hN : Reg.NoQ Q)
    (hQ : ∀ (x34 x35 x36 : Value) (w' : World), Kept w w' (fun k => k = g4 ∨ k = g5) → Blk w' g4 26 #[.int .i64 i0, .int .i64 i1, .slice A2 n2 p2, .slice A3 n3 p3, .slice A4 n4 p4] → Blk w' g5 26 #[.int .i64 j0, .int .i64 j1, .slice B2 m2 d2, .slice B3 m3 d3, .slice B4 m4 d4] → Q .normal ⟨List.toArray (u0 :: u1 :: (.pointer (some ⟨gA, 0, none⟩)) :: (.pointer (some ⟨gB, 0, none⟩)) :: (.pointer (some ⟨g4, 0, none⟩)) :: (.pointer (some ⟨g5, 0, none⟩)) :: (.int .i64 e) :: u7 :: (.int .i64 e) :: u9 :: u10 :: u11 :: u12 :: u13 :: u14 :: u15 :: u16 :: u17 :: u18 :: 
      u19 :: u20 :: u21 :: u22 :: u23 :: u24 :: u25 :: u26 :: u27 :: u28 :: u29 :: u30 :: u31 :: u32 :: u33 :: x34 :: x35 :: x36 :: u37 :: u38 :: u39 :: u40 :: u41 :: u42 :: u43 :: u44 :: []), []⟩ w') :
    (regionAt Try.f69 5).wp Try.prog Q ⟨List.toArray (u0 :: u1 :: (.pointer (some ⟨gA, 0, none⟩)) :: (.pointer (some ⟨gB, 0, none⟩)) :: (.pointer (some ⟨g4, 0, none⟩)) :: (.pointer (some ⟨g5, 0, none⟩)) :: u6 :: u7 :: (.int .i64 e) :: u9 :: u10 :: u11 :: u12 :: u13 :: u14 :: u15 :: u16 :: u17 :: u18 :: u19 :: u20 :: 
      u21 :: u22 :: u23 :: u24 :: u25 :: u26 :: u27 :: u28 :: u29 :: u30 :: u31 :: u32 :: u33 :: u34 :: u35 :: u36 :: u37 :: u38 :: u39 :: u40 :: u41 :: u42 :: u43 :: u44 :: []), []⟩ w := by
  conv => arg 2; whnf
  have bAd : Blk w.drew gA 26 #[.int .i64 i0, .int .i64 i1, .slice A2 n2 p2, .slice A3 n3 p3, .slice A4 n4 p4] := bA
  have bBd : Blk w.drew gB 26 #[.int .i64 j0, .int .i64 j1, .slice B2 m2 d2, .slice B3 m3 d3, .slice B4 m4 d4] := bB
  have b4d : Blk w.drew g4 26 #[z0, z1, z2, z3, z4] := b4
  have b5d : Blk w.drew g5 26 #[u0', u1', u2', u3', u4'] := b5
  have hkd : Kept w w.drew (fun k => k = g4 ∨ k = g5) := (Kept.refl w _).drew
  obtain ⟨wd, hwd⟩ : ∃ wd, w.drew = wd := ⟨_, rfl⟩
  refine Reg.region_cut [0, 0, 0, 1, 11, 31] [0, 1, 2, 3, 4, 5] (by kernel_rfl) hN ?_
  rw [hwd] at bAd bBd b4d b5d hkd ⊢
  clear hwd bA bB b4 b5
  obtain ⟨wA, hwA, b4A, hkA⟩ := set5_facts b4d (.int .i64 i0) (.int .i64 i1) (.slice A2 n2 p2) (.slice A3 n3 p3) (.slice A4 n4 p4)
  have bBA := bBd.kept hkA nB
  have b5A := b5d.kept hkA n5
  obtain ⟨wB, hwB, b5B, hkB⟩ := set5_facts b5A (.int .i64 j0) (.int .i64 j1) (.slice B2 m2 d2) (.slice B3 m3 d3) (.slice B4 m4 d4)
  have b4B := b4A.kept hkB (fun e => n5 e.symm)
  have hwA' := hwA
  have hwB' := hwB
  simp only [set5] at hwA' hwB'
  have cA := bAd.cell
  have cB := bBd.cell
  have c4 := b4d.cell
  have f4 := b4d.frozen
  have l4 := b4d.lt
  have hfin := hide (show Kept w wB (fun k => k = g4 ∨ k = g5) ∧ Blk wB g4 26 #[.int .i64 i0, .int .i64 i1, .slice A2 n2 p2, .slice A3 n3 p3, .slice A4 n4 p4] ∧ Blk wB g5 26 #[.int .i64 j0, .int .i64 j1, .slice B2 m2 d2, .slice B3 m3 d3, .slice B4 m4 d4] from ⟨(hkd.trans hkA (fun b _ e => .inl e)).trans hkB (fun b _ e => .inr e), b4B, b5B⟩)
  have rB := hide bBd
  have rBA := hide bBA
  clear hwA hwB bAd bBd b4d b5d bBA b4A b4B b5B hkd hkA hkB
  refine Reg.rest_walkE [0, 1, 2] _ rfl rfl (by kernel_rfl) ?_
  intro Qf hQf
  go_wp2_with fail
  try (rw [List.filterMap_nil]; go_wp2_with fail)
  refine Reg.rest_act' 3 _ [1] rfl (by kernel_rfl) ?_
  intro Qf hQf
  simp only [List.getElem_toArray, List.getElem_cons_succ, List.getElem_cons_zero]
  go_wp2_with fail
  refine ⟨?_, ?_⟩
  · intro zz hz qo hqo
    simp only [List.mem_cons, List.not_mem_nil, or_false] at hz
    subst hz
    injection hqo with hqo
    subst hqo
    exact Reg.same_loadS rfl rfl rB.out.rangeS rBA.out.rangeS Try.underlying26 rfl (by kernel_rfl)
  · have c5 := b5A.cell
    have f5 := b5A.frozen
    have l5 := b5A.lt
    clear cA cB c4 f4 l4
    refine Reg.rest_walkE [4, 5] _ rfl rfl (by kernel_rfl) ?_
    intro Qf hQf
    go_wp2_with fail
    refine hQf _ _ (Reg.rest_end ?_)
    exact hQ _ _ _ wB hfin.out.1 hfin.out.2.1 hfin.out.2.2

set_option maxHeartbeats 4000000 in
set_option maxRecDepth 100000 in
theorem both_out7 {w : World} {gA gB g4 g5 : Nat} {e : Int} {i0 i1 j0 j1 : Int} {A2 A3 A4 B2 B3 B4 : Option Addr} {n2 n3 n4 p2 p3 p4 m2 m3 m4 d2 d3 d4 : Nat} {z0 z1 z2 z3 z4 u0' u1' u2' u3' u4' : Value} (bA : Blk w gA 26 #[.int .i64 i0, .int .i64 i1, .slice A2 n2 p2, .slice A3 n3 p3, .slice A4 n4 p4]) (bB : Blk w gB 26 #[.int .i64 j0, .int .i64 j1, .slice B2 m2 d2, .slice B3 m3 d3, .slice B4 m4 d4]) (b4 : Blk w g4 26 #[z0, z1, z2, z3, z4]) (b5 : Blk w g5 26 #[u0', u1', u2', u3', u4'])
    (nB : gB ≠ g4) (n5 : g5 ≠ g4)
    {u0 u1 u2 u3 u6 u10 u11 u12 u13 u14 u15 u16 u17 u18 u19 u20 u21 u22 u23 u24 u25 u26 u27 u28 u29 u30 u31 u32 u33 u34 u35 u36 u37 u38 u39 u40 u41 u42 u43 u44 : Value}
    {Q : Exit → Act → World → Prop} (hN : Reg.NoQ Q)
    (hQ : ∀ (x42 x43 x44 : Value) (w' : World), Kept w w' (fun k => k = g4 ∨ k = g5) → Blk w' g4 26 #[.int .i64 i0, .int .i64 i1, .slice A2 n2 p2, .slice A3 n3 p3, .slice A4 n4 p4] → Blk w' g5 26 #[.int .i64 j0, .int .i64 j1, .slice B2 m2 d2, .slice B3 m3 d3, .slice B4 m4 d4] → Q .normal ⟨List.toArray (u0 :: u1 :: u2 :: u3 :: (.pointer (some ⟨g4, 0, none⟩)) :: (.pointer (some ⟨g5, 0, none⟩)) :: (.int .i64 e) :: (.pointer (some ⟨gA, 0, none⟩)) :: (.int .i64 e) :: (.pointer (some ⟨gB, 0, none⟩)) :: u10 :: u11 :: u12 :: u13 :: u14 :: u15 :: u16 :: u17 :: u18 :: 
      u19 :: u20 :: u21 :: u22 :: u23 :: u24 :: u25 :: u26 :: u27 :: u28 :: u29 :: u30 :: u31 :: u32 :: u33 :: u34 :: u35 :: u36 :: u37 :: u38 :: u39 :: u40 :: u41 :: x42 :: x43 :: x44 :: []), []⟩ w') :
    (regionAt Try.f69 7).wp Try.prog Q ⟨List.toArray (u0 :: u1 :: u2 :: u3 :: (.pointer (some ⟨g4, 0, none⟩)) :: (.pointer (some ⟨g5, 0, none⟩)) :: u6 :: (.pointer (some ⟨gA, 0, none⟩)) :: (.int .i64 e) :: (.pointer (some ⟨gB, 0, none⟩)) :: u10 :: u11 :: u12 :: u13 :: u14 :: u15 :: u16 :: u17 :: u18 :: u19 :: u20 :: 
      u21 :: u22 :: u23 :: u24 :: u25 :: u26 :: u27 :: u28 :: u29 :: u30 :: u31 :: u32 :: u33 :: u34 :: u35 :: u36 :: u37 :: u38 :: u39 :: u40 :: u41 :: u42 :: u43 :: u44 :: []), []⟩ w := by
  conv => arg 2; whnf
  have bAd : Blk w.drew gA 26 #[.int .i64 i0, .int .i64 i1, .slice A2 n2 p2, .slice A3 n3 p3, .slice A4 n4 p4] := bA
  have bBd : Blk w.drew gB 26 #[.int .i64 j0, .int .i64 j1, .slice B2 m2 d2, .slice B3 m3 d3, .slice B4 m4 d4] := bB
  have b4d : Blk w.drew g4 26 #[z0, z1, z2, z3, z4] := b4
  have b5d : Blk w.drew g5 26 #[u0', u1', u2', u3', u4'] := b5
  have hkd : Kept w w.drew (fun k => k = g4 ∨ k = g5) := (Kept.refl w _).drew
  obtain ⟨wd, hwd⟩ : ∃ wd, w.drew = wd := ⟨_, rfl⟩
  refine Reg.region_cut [0, 0, 0, 1, 11, 31] [0, 1, 2, 3, 4, 5] (by kernel_rfl) hN ?_
  rw [hwd] at bAd bBd b4d b5d hkd ⊢
  clear hwd bA bB b4 b5
  obtain ⟨wA, hwA, b4A, hkA⟩ := set5_facts b4d (.int .i64 i0) (.int .i64 i1) (.slice A2 n2 p2) (.slice A3 n3 p3) (.slice A4 n4 p4)
  have bBA := bBd.kept hkA nB
  have b5A := b5d.kept hkA n5
  obtain ⟨wB, hwB, b5B, hkB⟩ := set5_facts b5A (.int .i64 j0) (.int .i64 j1) (.slice B2 m2 d2) (.slice B3 m3 d3) (.slice B4 m4 d4)
  have b4B := b4A.kept hkB (fun e => n5 e.symm)
  have hwA' := hwA
  have hwB' := hwB
  simp only [set5] at hwA' hwB'
  have cA := bAd.cell
  have cB := bBd.cell
  have c4 := b4d.cell
  have f4 := b4d.frozen
  have l4 := b4d.lt
  have hfin := hide (show Kept w wB (fun k => k = g4 ∨ k = g5) ∧ Blk wB g4 26 #[.int .i64 i0, .int .i64 i1, .slice A2 n2 p2, .slice A3 n3 p3, .slice A4 n4 p4] ∧ Blk wB g5 26 #[.int .i64 j0, .int .i64 j1, .slice B2 m2 d2, .slice B3 m3 d3, .slice B4 m4 d4] from ⟨(hkd.trans hkA (fun b _ e => .inl e)).trans hkB (fun b _ e => .inr e), b4B, b5B⟩)
  have rB := hide bBd
  have rBA := hide bBA
  clear hwA hwB bAd bBd b4d b5d bBA b4A b4B b5B hkd hkA hkB
  refine Reg.rest_walkE [0, 1, 2] _ rfl rfl (by kernel_rfl) ?_
  intro Qf hQf
  go_wp2_with fail
  try (rw [List.filterMap_nil]; go_wp2_with fail)
  refine Reg.rest_act' 3 _ [1] rfl (by kernel_rfl) ?_
  intro Qf hQf
  simp only [List.getElem_toArray, List.getElem_cons_succ, List.getElem_cons_zero]
  go_wp2_with fail
  refine ⟨?_, ?_⟩
  · intro zz hz qo hqo
    simp only [List.mem_cons, List.not_mem_nil, or_false] at hz
    subst hz
    injection hqo with hqo
    subst hqo
    exact Reg.same_loadS rfl rfl rB.out.rangeS rBA.out.rangeS Try.underlying26 rfl (by kernel_rfl)
  · have c5 := b5A.cell
    have f5 := b5A.frozen
    have l5 := b5A.lt
    clear cA cB c4 f4 l4
    refine Reg.rest_walkE [4, 5] _ rfl rfl (by kernel_rfl) ?_
    intro Qf hQf
    go_wp2_with fail
    refine hQf _ _ (Reg.rest_end ?_)
    exact hQ _ _ _ wB hfin.out.1 hfin.out.2.1 hfin.out.2.2
end Go.Proofs.Ytnimlcbgeiajiaa

namespace Go.Proofs.Ytnimlcbgeiajiaa
open Go.RowKit

/-- What both returns: its two automata and its error. -/
def BothR (w' : World) (a b : TA) (r : Value) : Prop :=
  ∃ v1 v2 p q e, r = .tuple #[v1, v2, .int .i64 e] ∧ IsTA w' w'.heap.size v1 p ∧ IsTA w' w'.heap.size v2 q ∧
    ((chkL [a, b] = false ∧ e = 1) ∨ (chkL [a, b] = true ∧ (a.Large ∨ b.Large) ∧ e = 4) ∨ (chkL [a, b] = true ∧ e = 0 ∧ MinRel a 0 p ∧ MinRel b 0 q))
theorem chk_bad {a b : TA} (h : ¬ (a.valid = true ∧ b.valid = true ∧ b.letters = a.letters)) : chkL [a, b] = false := by
  cases e : chkL [a, b] with
  | false => rfl
  | true => exact (h (chk2.1 e)).elim

set_option maxHeartbeats 8000000 in
set_option maxRecDepth 100000 in
theorem refboth_any (v v' : Value) (a b : TA) (w : World) (h : IsTA w w.heap.size v a) (h' : IsTA w w.heap.size v' b) :
    Calls Try.prog 69 #[v, v'] w (Ret fun r w' => Below w.heap.size w w' ∧ BothR w' a b r) := by
  obtain ⟨A1, c1, A2, c2, A3, c3, rfl, h1, h2, h3⟩ := h
  obtain ⟨A4, c4, A5, c5, A6, c6, rfl, h4, h5, h6⟩ := h'
  obtain ⟨w1, hw1, hb1, hB1, hk1⟩ := box_blk w #[.int .i64 a.letters, .int .i64 a.states, .slice A1 a.accept.length c1, .slice A2 a.leaves.length c2, .slice A3 a.branches.length c3] 26
  obtain ⟨w2, hw2, hb2, hB2, hk2⟩ := box_blk w1 #[.int .i64 b.letters, .int .i64 b.states, .slice A4 b.accept.length c4, .slice A5 b.leaves.length c5, .slice A6 b.branches.length c6] 26
  obtain ⟨w3, hw3, hb3, hB3, hk3⟩ := box_blk w2 #[.int .i64 0, .int .i64 0, .slice none 0 0, .slice none 0 0, .slice none 0 0] 26
  obtain ⟨w4, hw4, hb4, hB4, hk4⟩ := box_blk w3 #[.int .i64 0, .int .i64 0, .slice none 0 0, .slice none 0 0, .slice none 0 0] 26
  have z1 := hb1.size
  have z2 := hb2.size
  have z3 := hb3.size
  have z4 := hb4.size
  have hl1 := hB1.lt
  have hl2 := hB2.lt
  have hl3 := hB3.lt
  have hl4 := hB4.lt
  have hb04' : Below w.heap.size w w4 := hb1.trans ((hb2.trans ((hb3.trans (hb4.mono z3)).mono z2)).mono z1)
  have hB14' := ((hB1.kept hk2 id).kept hk3 id).kept hk4 id
  have hB24' := (hB2.kept hk3 id).kept hk4 id
  have hB34' := hB3.kept hk4 id
  have hcA := hB14'.cell
  have hcB := hB24'.cell
  have hA : Hid (IsTA w w.heap.size (.agg #[.int .i64 a.letters, .int .i64 a.states, .slice A1 a.accept.length c1, .slice A2 a.leaves.length c2, .slice A3 a.branches.length c3]) a) := ⟨A1, c1, A2, c2, A3, c3, rfl, h1, h2, h3⟩
  have hB : Hid (IsTA w w.heap.size (.agg #[.int .i64 b.letters, .int .i64 b.states, .slice A4 b.accept.length c4, .slice A5 b.leaves.length c5, .slice A6 b.branches.length c6]) b) := ⟨A4, c4, A5, c5, A6, c6, rfl, h4, h5, h6⟩
  have hT1 := hide (hA.out.keep (fun _ hp => hb04'.cell hp) hb04'.size)
  have hb04 := hide hb04'
  have hB14 := hide hB14'
  have hB24 := hide hB24'
  have hB34 := hide hB34'
  have hB44 := hide hB4
  have z04 := hb04'.size
  clear h1 h2 h3 h4 h5 h6 hb04' hB14' hB24' hB34' hB1 hB2 hB3 hB4 hk1 hk2 hk3 hk4 hb1 hb2 hb3 hb4
  go_enter Try.func69, Try.ntmps69
  go_wp2_with fail
  refine (refValidate_any _ a w4 hT1.out).mono ?_
  rintro e w5 ⟨rfl, hb5⟩
  have z5 := hb5.size
  cases hv : a.valid with
  | false =>
    have hvv := hide hv
    have he : errno false = 1 := rfl
    rw [he]
    clear hv he
    go_wp2_with fail
    refine both_out2 (hB14.out.below hb5) (hB24.out.below hb5) (hB34.out.below hb5) (hB44.out.below hb5) (by omega) (by omega) ?_ ?_
    · repeat (first | exact Reg.NoQ.body (fun _ _ h => h) (fun _ h => h) | refine Reg.NoQ.then ?_ | refine Reg.NoQ.inBlock ?_)
    iterate 2 (intro _)
    intro wF hkF hg4 hg5
    have hc4 := hg4.cell
    have hc5 := hg5.cell
    have hbF : Below w.heap.size w wF := (hb04.out.trans (hb5.mono (by omega))).trans (hkF.below (by omega) (fun _ hb e => by omega))
    go_wp2_with fail
    exact bodyPost_ret (v := .tuple #[.agg #[.int .i64 a.letters, .int .i64 a.states, .slice A1 a.accept.length c1, .slice A2 a.leaves.length c2, .slice A3 a.branches.length c3], .agg #[.int .i64 b.letters, .int .i64 b.states, .slice A4 b.accept.length c4, .slice A5 b.leaves.length c5, .slice A6 b.branches.length c6], .int .i64 1]) (by simp [results, Try.results69, go_sem, hc4, hc5]) rfl ⟨hbF, _, _, a, b, 1, rfl, hA.out.keep (fun _ hp => hbF.cell hp) hbF.size, hB.out.keep (fun _ hp => hbF.cell hp) hbF.size, .inl ⟨chk_bad (by rw [hvv.out]; simp), rfl⟩⟩
  | true =>
    have hvv := hide hv
    have he : errno true = 0 := rfl
    rw [he]
    have hcA5 := (hB14.out.below hb5).cell
    have hcB5 := (hB24.out.below hb5).cell
    have hb05 := hb04.out.trans (hb5.mono z04)
    have hT2 := hide (hB.out.keep (fun _ hp => hb05.cell hp) hb05.size)
    have hb5H := hide hb5
    clear hv he hcA hcB hb05 hb5
    go_wp2_with fail
    refine (refValidate_any _ b w5 hT2.out).mono ?_
    rintro e w6 ⟨rfl, hb6'⟩
    have z6 := hb6'.size
    have hb6 : Below w4.heap.size w4 w6 := hb5H.out.trans (hb6'.mono z5)
    cases hv' : b.valid with
    | false =>
      have hvv' := hide hv'
      have he : errno false = 1 := rfl
      rw [he]
      clear hv' he hcA5 hcB5
      go_wp2_with fail
      refine both_out2 (hB14.out.below hb6) (hB24.out.below hb6) (hB34.out.below hb6) (hB44.out.below hb6) (by omega) (by omega) ?_ ?_
      · repeat (first | exact Reg.NoQ.body (fun _ _ h => h) (fun _ h => h) | refine Reg.NoQ.then ?_ | refine Reg.NoQ.inBlock ?_)
      iterate 2 (intro _)
      intro wF hkF hg4 hg5
      have hc4 := hg4.cell
      have hc5 := hg5.cell
      have hbF : Below w.heap.size w wF := (hb04.out.trans (hb6.mono (by omega))).trans (hkF.below (by omega) (fun _ hb e => by omega))
      go_wp2_with fail
      exact bodyPost_ret (v := .tuple #[.agg #[.int .i64 a.letters, .int .i64 a.states, .slice A1 a.accept.length c1, .slice A2 a.leaves.length c2, .slice A3 a.branches.length c3], .agg #[.int .i64 b.letters, .int .i64 b.states, .slice A4 b.accept.length c4, .slice A5 b.leaves.length c5, .slice A6 b.branches.length c6], .int .i64 1]) (by simp [results, Try.results69, go_sem, hc4, hc5]) rfl ⟨hbF, _, _, a, b, 1, rfl, hA.out.keep (fun _ hp => hbF.cell hp) hbF.size, hB.out.keep (fun _ hp => hbF.cell hp) hbF.size, .inl ⟨chk_bad (by rw [hvv'.out]; simp), rfl⟩⟩
    | true =>
      have hvv' := hide hv'
      have he : errno true = 0 := rfl
      rw [he]
      have hcA6 := (hB14.out.below hb6).cell
      have hcB6 := (hB24.out.below hb6).cell
      have hb06 := hb04.out.trans (hb6.mono z04)
      have hT3 := hide (hA.out.keep (fun _ hp => hb06.cell hp) hb06.size)
      have hb6H := hide hb6
      have hb06H := hide hb06
      clear hv' he hcA5 hcB5 hb06 hb6 hb6'
      by_cases hl : a.letters = b.letters
      · have hlH := hide hl
        clear hl
        have hl2 : ¬ (a.letters ≠ b.letters) := fun h => h hlH.out
        go_wp2_with fail
        refine Calls.ret (refmin_any _ a w6 hT3.out hvv.out) ?_
        rintro v w7 ⟨hb7', hres⟩
        have z7 := hb7'.size
        have hb7 : Below w4.heap.size w4 w7 := hb6H.out.trans (hb7'.mono (by omega))
        rcases hres with ⟨hlg, rfl⟩ | ⟨hnl, ac, lf, t, va, rfl, hok, hle, hcan, hown⟩
        · have hLA := hide hlg
          clear hlg
          unfold zeroTA
          obtain ⟨w8, hw8, hb8, hB8, hk8⟩ := box_blk w7 #[.int .i64 0, .int .i64 0, .slice none 0 0, .slice none 0 0, .slice none 0 0] 26
          have hc8 := hB8.cell
          have hf8 := hB8.frozen
          have hl8 := hB8.lt
          obtain ⟨w9, hw9, hg9, hk9⟩ := set5_facts hB8 (.int .i64 0) (.int .i64 0) (.slice none 0 0) (.slice none 0 0) (.slice none 0 0)
          have hb79 : Below w7.heap.size w7 w9 := hb8.trans (hk9.below hb8.size fun _ hb e => by omega)
          have hb9 := hb7.trans (hb79.mono (by omega))
          have z9 := hb9.size
          have hw9' := hw9
          simp only [set5] at hw9'
          clear hcA6 hcB6 hw9
          go_wp2_with fail
          refine both_out5 (hB14.out.below hb9) (hB24.out.below hb9) (hB34.out.below hb9) (hB44.out.below hb9) (by omega) (by omega) ?_ ?_
          · repeat (first | exact Reg.NoQ.body (fun _ _ h => h) (fun _ h => h) | refine Reg.NoQ.then ?_ | refine Reg.NoQ.inBlock ?_)
          iterate 3 (intro _)
          intro wF hkF hg4 hg5
          have hc4 := hg4.cell
          have hc5 := hg5.cell
          have hbF : Below w.heap.size w wF := (hb04.out.trans (hb9.mono (by omega))).trans (hkF.below (by omega) (fun _ hb e => by omega))
          go_wp2_with fail
          exact bodyPost_ret (v := .tuple #[.agg #[.int .i64 a.letters, .int .i64 a.states, .slice A1 a.accept.length c1, .slice A2 a.leaves.length c2, .slice A3 a.branches.length c3], .agg #[.int .i64 b.letters, .int .i64 b.states, .slice A4 b.accept.length c4, .slice A5 b.leaves.length c5, .slice A6 b.branches.length c6], .int .i64 4]) (by simp [results, Try.results69, go_sem, hc4, hc5]) rfl ⟨hbF, _, _, a, b, 4, rfl, hA.out.keep (fun _ hp => hbF.cell hp) hbF.size, hB.out.keep (fun _ hp => hbF.cell hp) hbF.size, .inr (.inl ⟨chk2.2 ⟨hvv.out, hvv'.out, hlH.out.symm⟩, .inl hLA.out, rfl⟩)⟩
        · have hMR := hide (show MinRel a 0 (plainA a.letters.toNat ac lf t) from .inr (.inr ⟨hvv.out, hnl, rfl, ac, lf, t, hok, hle, hcan, rfl⟩))
          have hL8 : a.letters.toNat ≤ 8 := by
            have := TA.valid_parts hvv.out
            omega
          have hOO := hide hok
          have hOwn := hide hown
          have hne7 : ∀ g e cs, (g = w2.heap.size ∨ g = w3.heap.size) → e ≠ 26 → ¬ Blk w7 g e cs := fun g e cs hg he hb => hg.elim (fun eg => by subst eg; exact (hB34.out.below hb7).ne_ hb (fun h => he h.symm) rfl) (fun eg => by subst eg; exact (hB44.out.below hb7).ne_ hb (fun h => he h.symm) rfl)
          obtain ⟨B1, d1, B2, d2, B3, d3, rfl, -, -, -⟩ := own_ta hown
          generalize hpA : plainA a.letters.toNat ac lf t = pA at *
          have hpH := hide hpA
          obtain ⟨w8, hw8, hb8, hB8, hk8⟩ := box_blk w7 #[.int .i64 pA.letters, .int .i64 pA.states, .slice B1 pA.accept.length d1, .slice B2 pA.leaves.length d2, .slice B3 pA.branches.length d3] 26
          have hc8 := hB8.cell
          have hl8 := hB8.lt
          have hb9 := hb7.trans (hb8.mono (by omega))
          have z9 := hb9.size
          have hcB8 := (hB24.out.below hb9).cell
          have hb09 := hb04.out.trans (hb9.mono z04)
          have hT4 := hide (hB.out.keep (fun _ hp => hb09.cell hp) hb09.size)
          have hb9H := hide hb9
          have hB8H := hide hB8
          have hb78H := hide hb8
          clear hcA6 hcB6 hnl hok hle hcan hown hpA hb09 hb9 hB8 hb8 hb7
          go_wp2_with fail
          refine Calls.ret (refmin_any _ b w8 hT4.out hvv'.out) ?_
          rintro v w9 ⟨hb9', hres⟩
          have z9' := hb9'.size
          have hb9 : Below w4.heap.size w4 w9 := hb9H.out.trans (hb9'.mono (by omega))
          have hb7t9 : Below w7.heap.size w7 w9 := hb78H.out.trans (hb9'.mono (by omega))
          have hB89 := hB8H.out.below hb9'
          rcases hres with ⟨hlg, rfl⟩ | ⟨hnl, ac', lf', t', va', rfl, hok', hle', hcan', hown'⟩
          · have hLB := hide hlg
            clear hlg
            unfold zeroTA
            obtain ⟨wA, hwA, hbA, hBA, hkA⟩ := box_blk w9 #[.int .i64 0, .int .i64 0, .slice none 0 0, .slice none 0 0, .slice none 0 0] 26
            have hcA := hBA.cell
            have hfA := hBA.frozen
            have hlA := hBA.lt
            obtain ⟨wB, hwB, hgB, hkB⟩ := set5_facts hBA (.int .i64 0) (.int .i64 0) (.slice none 0 0) (.slice none 0 0) (.slice none 0 0)
            have hb9B : Below w9.heap.size w9 wB := hbA.trans (hkB.below hbA.size fun _ hb e => by omega)
            have hbB := hb9.trans (hb9B.mono (by omega))
            have hb7B := hb7t9.trans (hb9B.mono (by omega))
            have zB := hbB.size
            have hB8B := hB89.below hb9B
            have hwB' := hwB
            simp only [set5] at hwB'
            clear hc8 hcB8 hwB
            go_wp2_with fail
            refine both_out7 hB8B hgB (hB34.out.below hbB) (hB44.out.below hbB) (by omega) (by omega) ?_ ?_
            · repeat (first | exact Reg.NoQ.body (fun _ _ h => h) (fun _ h => h) | refine Reg.NoQ.then ?_ | refine Reg.NoQ.inBlock ?_)
            iterate 3 (intro _)
            intro wF hkF hg4 hg5
            have hc4 := hg4.cell
            have hc5 := hg5.cell
            have hbF : Below w.heap.size w wF := (hb04.out.trans (hbB.mono (by omega))).trans (hkF.below (by omega) (fun _ hb e => by omega))
            go_wp2_with fail
            exact bodyPost_ret (v := .tuple #[.agg #[.int .i64 pA.letters, .int .i64 pA.states, .slice B1 pA.accept.length d1, .slice B2 pA.leaves.length d2, .slice B3 pA.branches.length d3], .agg #[.int .i64 0, .int .i64 0, .slice none 0 0, .slice none 0 0, .slice none 0 0], .int .i64 4]) (by simp [results, Try.results69, go_sem, hc4, hc5]) rfl ⟨hbF, _, _, pA, zTA, 4, rfl, (TAown.keep hOwn.out ((Kept.of_below hb7B (fun k => k = w2.heap.size ∨ k = w3.heap.size)).trans hkF (fun _ _ e => e)) hne7 hpH.out.symm hOO.out hL8).ta, zero_ta _, .inr (.inl ⟨chk2.2 ⟨hvv.out, hvv'.out, hlH.out.symm⟩, .inr hLB.out, rfl⟩)⟩
          · have hMR' := hide (show MinRel b 0 (plainA b.letters.toNat ac' lf' t') from .inr (.inr ⟨hvv'.out, hnl, rfl, ac', lf', t', hok', hle', hcan', rfl⟩))
            have hL8' : b.letters.toNat ≤ 8 := by
              have := TA.valid_parts hvv'.out
              omega
            have hOO' := hide hok'
            have hOwn' := hide hown'
            have hne9 : ∀ g e cs, (g = w2.heap.size ∨ g = w3.heap.size) → e ≠ 26 → ¬ Blk w9 g e cs := fun g e cs hg he hb => hg.elim (fun eg => by subst eg; exact (hB34.out.below hb9).ne_ hb (fun h => he h.symm) rfl) (fun eg => by subst eg; exact (hB44.out.below hb9).ne_ hb (fun h => he h.symm) rfl)
            obtain ⟨D1, e1, D2, e2, D3, e3, rfl, -, -, -⟩ := own_ta hown'
            generalize hpB : plainA b.letters.toNat ac' lf' t' = pB at *
            have hpH' := hide hpB
            obtain ⟨wB, hwB, hb9B, hBB, hkB⟩ := box_blk w9 #[.int .i64 pB.letters, .int .i64 pB.states, .slice D1 pB.accept.length e1, .slice D2 pB.leaves.length e2, .slice D3 pB.branches.length e3] 26
            have hcA := hBB.cell
            have hlA := hBB.lt
            have hbB := hb9.trans (hb9B.mono (by omega))
            have hb7B := hb7t9.trans (hb9B.mono (by omega))
            have zB := hbB.size
            have hB8B := hB89.below hb9B
            clear hc8 hcB8 hnl hok' hle' hcan' hown' hpB
            go_wp2_with fail
            refine both_out7 hB8B hBB (hB34.out.below hbB) (hB44.out.below hbB) (by omega) (by omega) ?_ ?_
            · repeat (first | exact Reg.NoQ.body (fun _ _ h => h) (fun _ h => h) | refine Reg.NoQ.then ?_ | refine Reg.NoQ.inBlock ?_)
            iterate 3 (intro _)
            intro wF hkF hg4 hg5
            have hc4 := hg4.cell
            have hc5 := hg5.cell
            have hbF : Below w.heap.size w wF := (hb04.out.trans (hbB.mono (by omega))).trans (hkF.below (by omega) (fun _ hb e => by omega))
            go_wp2_with fail
            exact bodyPost_ret (v := .tuple #[.agg #[.int .i64 pA.letters, .int .i64 pA.states, .slice B1 pA.accept.length d1, .slice B2 pA.leaves.length d2, .slice B3 pA.branches.length d3], .agg #[.int .i64 pB.letters, .int .i64 pB.states, .slice D1 pB.accept.length e1, .slice D2 pB.leaves.length e2, .slice D3 pB.branches.length e3], .int .i64 0]) (by simp [results, Try.results69, go_sem, hc4, hc5]) rfl ⟨hbF, _, _, pA, pB, 0, rfl, (TAown.keep hOwn.out ((Kept.of_below hb7B (fun k => k = w2.heap.size ∨ k = w3.heap.size)).trans hkF (fun _ _ e => e)) hne7 hpH.out.symm hOO.out hL8).ta, (TAown.keep hOwn'.out ((Kept.of_below hb9B (fun k => k = w2.heap.size ∨ k = w3.heap.size)).trans hkF (fun _ _ e => e)) hne9 hpH'.out.symm hOO'.out hL8').ta, .inr (.inr ⟨chk2.2 ⟨hvv.out, hvv'.out, hlH.out.symm⟩, rfl, hMR.out, hMR'.out⟩)⟩
      · go_wp2_with fail
        have hb6 := hb6H.out
        refine both_out2 (hB14.out.below hb6) (hB24.out.below hb6) (hB34.out.below hb6) (hB44.out.below hb6) (by omega) (by omega) ?_ ?_
        · repeat (first | exact Reg.NoQ.body (fun _ _ h => h) (fun _ h => h) | refine Reg.NoQ.then ?_ | refine Reg.NoQ.inBlock ?_)
        iterate 2 (intro _)
        intro wF hkF hg4 hg5
        have hc4 := hg4.cell
        have hc5 := hg5.cell
        have hbF : Below w.heap.size w wF := (hb04.out.trans (hb6.mono (by omega))).trans (hkF.below (by omega) (fun _ hb e => by omega))
        go_wp2_with fail
        exact bodyPost_ret (v := .tuple #[.agg #[.int .i64 a.letters, .int .i64 a.states, .slice A1 a.accept.length c1, .slice A2 a.leaves.length c2, .slice A3 a.branches.length c3], .agg #[.int .i64 b.letters, .int .i64 b.states, .slice A4 b.accept.length c4, .slice A5 b.leaves.length c5, .slice A6 b.branches.length c6], .int .i64 1]) (by simp [results, Try.results69, go_sem, hc4, hc5]) rfl ⟨hbF, _, _, a, b, 1, rfl, hA.out.keep (fun _ hp => hbF.cell hp) hbF.size, hB.out.keep (fun _ hp => hbF.cell hp) hbF.size, .inl ⟨chk_bad fun h => hl h.2.2.symm, rfl⟩⟩
end Go.Proofs.Ytnimlcbgeiajiaa

namespace Go.Proofs.Ytnimlcbgeiajiaa
open Go.RowKit

/-- What empty answers. -/
def EmptyR (n : Nat) (ac : Nat → Bool) (v : Value) : Prop := ∃ x : Bool, v = .bool x ∧ (x = true ↔ ∀ q, q < n → ac q = false)

set_option maxHeartbeats 4000000 in
theorem tblempty_any {w : World} {n L : Nat} {vl vb va : Value} {lf : Nat → Nat} {br : Nat → Nat → Nat → Nat} {ac : Nat → Bool} (h : TblF w L n vl vb va lf br ac) (hn : n ≤ 1000000) :
    Calls Try.prog 70 #[.agg #[.int .i64 (L : Int), vl, vb, va]] w (Ret fun v w' => Below w.heap.size w w' ∧ EmptyR n ac v) := by
  obtain ⟨g, c, rfl, hac⟩ := h.acc
  obtain ⟨w1, hw1, hb1, hB1, hk1⟩ := box_blk w #[.int .i64 (L : Int), vl, vb, .slice (some ⟨g, 0, none⟩) n c] 84
  have hc1 := hB1.cell
  have hH : Hid (∀ q, q < n → w1.cell? ⟨g, q, none⟩ = some (.bool (ac q))) := fun q hq => (hb1.cell (cell_lt' (hac q hq))).trans (hac q hq)
  have hb01 := hide hb1
  clear h hb1 hac
  go_enter Try.func70, Try.ntmps70
  go_wp2_with fail
  go_loop [3] (fun ii => ∃ (k : Nat), ii = .int .i64 (k : Int) ∧ k ≤ n ∧ Hid (∀ j, j < k → ac j = false)) (fun ii => n - (intOf ii).toNat)
  case atStart => exact ⟨0, rfl, Nat.zero_le _, fun j hj => absurd hj (by omega)⟩
  case round =>
    obtain ⟨k, rfl, hk, hE⟩ := hrel
    by_cases hlt : k < n
    · have hc := hH.out k hlt
      obtain ⟨b, hb⟩ : ∃ b, ac k = b := ⟨_, rfl⟩
      rw [hb] at hc
      have hB := hide hb
      clear hb
      cases b
      · go_wp2_with fail
        refine ⟨⟨k + 1, by go_num, by omega, fun j hj => ?_⟩, by simp [intOf]; omega⟩
        by_cases e : j = k
        · subst e; exact hB.out
        · exact hE.out j (by omega)
      · go_wp2_with fail
        go_ret
        refine ⟨hb01.out, false, rfl, fun h => (by cases h), fun h => ?_⟩
        exact absurd (h k hlt) (by rw [hB.out]; decide)
    · go_wp2_with fail
      go_ret
      exact ⟨hb01.out, true, rfl, fun _ q hq => hE.out q (by omega), fun _ => rfl⟩

theorem expl_empty {S : Type} {L : Nat} {leaf : Nat → S} {br : Nat → S → S → S} {l : List S} {f : S → Bool} (hE : Expl L leaf br l l.length) :
    (∀ q, q < l.length → macc (l.map f) q = false) ↔ ∀ u : Tr, u.ok L → f (runT leaf br u) = false := by
  constructor
  · intro h u hu
    obtain ⟨q, hq⟩ := List.mem_iff_getElem?.1 ((hE.all _).2 (reach_run.2 ⟨u, hu, rfl⟩))
    have h2 := h q (lt_of_get hq)
    unfold macc at h2
    rwa [getD_some (map_get (f := f) hq)] at h2
  · intro h q hq
    obtain ⟨s, hs⟩ := get_lt hq
    obtain ⟨u, hu, rfl⟩ := reach_run.1 ((hE.all _).1 (List.mem_of_getElem? hs))
    unfold macc
    rw [getD_some (map_get (f := f) hs)]
    exact h u hu

set_option maxHeartbeats 8000000 in
set_option maxRecDepth 100000 in
theorem inc_out {w : World} {g6 g7 L : Nat} {acA acB : List Bool} {lfA lfB : List Nat} {tA tB : List (List (List Nat))} {p q : TA} {P2 P3 P4 Q2 Q3 Q4 : Option Addr} {a2 a3 a4 b2 b3 b4 : Nat}
    (hp : Hid (p = plainA L acA lfA tA)) (hq : Hid (q = plainA L acB lfB tB)) (b6 : Blk w g6 26 #[.int .i64 p.letters, .int .i64 p.states, .slice P2 p.accept.length a2, .slice P3 p.leaves.length a3, .slice P4 p.branches.length a4]) (b7 : Blk w g7 26 #[.int .i64 q.letters, .int .i64 q.states, .slice Q2 q.accept.length b2, .slice Q3 q.leaves.length b3, .slice Q4 q.branches.length b4])
    (iP : IsTA w w.heap.size (.agg #[.int .i64 p.letters, .int .i64 p.states, .slice P2 p.accept.length a2, .slice P3 p.leaves.length a3, .slice P4 p.branches.length a4]) p) (iQ : IsTA w w.heap.size (.agg #[.int .i64 q.letters, .int .i64 q.states, .slice Q2 q.accept.length b2, .slice Q3 q.leaves.length b3, .slice Q4 q.branches.length b4]) q)
    (okA : MOK L acA lfA tA) (okB : MOK L acB lfB tB) (hL : L ≤ 8) (hL1 : 1 ≤ L) (hA : acA.length ≤ 64) (hB : acB.length ≤ 64) (hNN : JoiN L acA.length acB.length (mleaf lfA) (mleaf lfB) (mbr tA) (mbr tB))
    {u0 u1 u2 u3 u4 u5 u8 u9 u10 u11 u12 u13 u14 u15 u16 u17 u18 u19 u20 u21 u22 u23 u24 : Value}
    {Q : Exit → Act → World → Prop} (hN : Reg.NoQ Q)
    (hQ : ∀ (x19 x20 x21 x22 x23 x24 : Value) (x : Bool) (w' : World), Below w.heap.size w w' → (x = true ↔ ∀ u : Tr, u.ok L → wayJ 3 (macc acA (runT (mleaf lfA) (mbr tA) u)) (macc acB (runT (mleaf lfB) (mbr tB) u)) = false) → Q .normal ⟨#[u0, u1, u2, u3, .bool x, .int .i64 0, .pointer (some ⟨g6, 0, none⟩), .pointer (some ⟨g7, 0, none⟩), u8, u9, u10, u11, u12, u13, u14, u15, u16, u17, u18, x19, x20, x21, x22, x23, x24], []⟩ w') :
    (regionAt Try.f39 4).wp Try.prog Q ⟨#[u0, u1, u2, u3, u4, u5, .pointer (some ⟨g6, 0, none⟩), .pointer (some ⟨g7, 0, none⟩), u8, u9, u10, u11, u12, u13, u14, u15, u16, u17, u18, u19, u20, u21, u22, u23, u24], []⟩ w := by
  conv => arg 2; whnf
  have b6d : Blk w.drew g6 26 #[.int .i64 p.letters, .int .i64 p.states, .slice P2 p.accept.length a2, .slice P3 p.leaves.length a3, .slice P4 p.branches.length a4] := b6
  have b7d : Blk w.drew g7 26 #[.int .i64 q.letters, .int .i64 q.states, .slice Q2 q.accept.length b2, .slice Q3 q.leaves.length b3, .slice Q4 q.branches.length b4] := b7
  have iPd : Hid (IsTA w.drew w.drew.heap.size (.agg #[.int .i64 p.letters, .int .i64 p.states, .slice P2 p.accept.length a2, .slice P3 p.leaves.length a3, .slice P4 p.branches.length a4]) p) := iP
  have iQd : Hid (IsTA w.drew w.drew.heap.size (.agg #[.int .i64 q.letters, .int .i64 q.states, .slice Q2 q.accept.length b2, .slice Q3 q.leaves.length b3, .slice Q4 q.branches.length b4]) q) := iQ
  have hb0 : Below w.heap.size w w.drew := (Below.refl _ w).drew
  have hz0 : w.drew.heap.size = w.heap.size := rfl
  obtain ⟨wd, hwd⟩ : ∃ wd, w.drew = wd := ⟨_, rfl⟩
  refine Reg.region_cut [0, 1, 0, 7, 15, 31, 63, 127] [0, 2, 1, 3, 4, 5, 6, 7] (by kernel_rfl) hN ?_
  rw [hwd] at b6d b7d iPd iQd hb0 hz0 ⊢
  clear hwd b6 b7 iP iQ
  have c6 := b6d.cell
  have c7 := b7d.cell
  have hb0H := hide hb0
  have okAH := hide okA
  have okBH := hide okB
  have hNH := hide hNN
  clear hb0 okA okB hNN b6d b7d
  refine Reg.rest_walkE (T := [0, 2, 1, 3, 4, 5, 6, 7]) [0, 2] _ rfl rfl (by kernel_rfl) ?_
  intro Qf hQf
  go_wp2_with fail
  try (rw [List.filterMap_nil]; go_wp2_with fail)
  refine Reg.rest_act' 1 _ [2] rfl (by kernel_rfl) ?_
  intro Qf hQf
  simp only [List.getElem_toArray, List.getElem_cons_succ, List.getElem_cons_zero]
  go_wp2_with (go_at_call 59; refine Calls.ret (table_any (by rw [← hp.out]; exact iPd.out) okAH.out hL hL1 (by omega)) ?_; rintro v5 w5 ⟨hb5, gl, ga, gv, cv, gi, ci, gj, rfl, hT5⟩)
  refine ⟨Reg.same_below hb5 [2] rfl, ?_⟩
  have iQ5 := hide (iQd.out.keep (fun _ hp => hb5.cell hp) hb5.size)
  have hF5 := hide hT5.read
  have hb05 := hide (hb0H.out.trans (hb5.mono (by omega)))
  have z5 := hb5.size
  clear hb5 hT5 c6 c7
  refine Reg.rest_walkE [3, 4, 5, 6, 7] _ rfl rfl (by kernel_rfl) ?_
  intro Qf hQf
  go_wp2_with (first
    | (go_at_call 59; refine Calls.ret (table_any (by rw [← hq.out]; exact iQ5.out) okBH.out hL hL1 (by omega)) ?_; rintro v6 w6 ⟨hb6, gl6, ga6, gv6, cv6, gi6, ci6, gj6, rfl, hT6⟩
       have hF6 := hide hT6.read
       have hF56 := hide (hF5.out.below hb6)
       have hb06 := hide (hb05.out.trans (hb6.mono (by omega)))
       have z6 := hb6.size
       clear hb6 hT6)
    | (go_at_call 71; refine Calls.ret (join_any (way := 3) hF56.out hF6.out hNH.out ?_ hL hL1 (.inr (.inr rfl))) ?_
       · exact Nat.le_trans (Nat.mul_le_mul hA hB) (by omega)
       rintro v7 w7 ⟨hb7, l, vl, vb, va, rfl, hE, hle, hF7⟩
       have hEH := hide hE
       have hF7H := hide hF7
       have hb07 := hide (hb06.out.trans (hb7.mono (by omega)))
       have z7 := hb7.size
       have hlen : l.length ≤ 1000000 := Nat.le_trans hle (Nat.le_trans (Nat.mul_le_mul hA hB) (by omega))
       clear hb7 hE hF7 hle)
    | (go_at_call 70; refine Calls.ret (tblempty_any hF7H.out hlen) ?_; rintro v8 w8 ⟨hb8, hem⟩
       obtain ⟨x, rfl, hx⟩ := hem
       have hxH := hide hx
       have hb08 := hide (hb07.out.trans (hb8.mono (by omega)))
       clear hx hb8))
  refine hQf _ _ (Reg.rest_end ?_)
  refine hQ _ _ _ _ _ _ x w8 hb08.out ?_
  rw [hxH.out, expl_empty hEH.out]
  constructor
  · intro h u hu
    have := h u hu
    rwa [join_run] at this
  · intro h u hu
    rw [join_run]
    exact h u hu
end Go.Proofs.Ytnimlcbgeiajiaa
